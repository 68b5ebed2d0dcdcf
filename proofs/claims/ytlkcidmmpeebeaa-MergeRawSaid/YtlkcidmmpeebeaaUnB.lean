/- Proved: debuggerref09.Name on plain data -/
import Derived.Test.YtlkcidmmpeebeaaPcE
import Derived.Test.YtlkcidmmpeebeaaPcP
import Derived.Test.YtlkcidmmpeebeaaPSmall
set_option linter.unusedVariables false
set_option linter.unusedSimpArgs false
namespace Go.Proofs.Ytlkcidmmpeebeaa
open Go.RowKit Go.PX
set_option maxRecDepth 100000
def enc1 (p:Int × Int):List PX.PV:=[.sc (.I p.1)]
def enc2 (p:Int × Int):List PX.PV:=[.sc (.I p.2)]
def nameOf (nm:List (Int × Int)) (v:Int):Int:=match nm.find? (fun p=>p.1==v) with | some p=>p.2 | none=>v
theorem name_at {nm:List (Int × Int)} {v:Int} {k:Nat} {y:Int × Int} (h:Upto nm (fun _ p=>!(p.1==v)) k) (hy:nm[k]?=some y) (hv:(y.1==v)=true):nameOf nm v=y.2:=by
 obtain ⟨h1,h2⟩:=List.getElem?_eq_some_iff.1 hy
 have e:nm.find? (fun p=>p.1==v)=some y:=by
  rw [List.find?_eq_some_iff_getElem]
  refine ⟨hv,k,h1,h2,fun j hj=>?_⟩
  have:=h j (nm[j]'(by omega)) hj (List.getElem?_eq_getElem (by omega))
  simpa using this
 unfold nameOf; rw [e]
theorem name_no {nm:List (Int × Int)} {v:Int} {k:Nat} (h:Upto nm (fun _ p=>!(p.1==v)) k) (hk:nm.length≤k):nameOf nm v=v:=by
 have e:nm.find? (fun p=>p.1==v)=none:=by
  rw [List.find?_eq_none]
  intro x hx
  obtain ⟨j,hj⟩:=List.getElem?_of_mem hx
  have:=h j x (by have:=(List.getElem?_eq_some_iff.1 hj).1; omega) hj
  simpa using this
 unfold nameOf; rw [e]
def renO_ (nm:List (Int × Int)) (o:OpD):OpD:={ o with dst:=if R.defines o.kind=true then nameOf nm o.dst else o.dst,a:=if R.usesA o.kind=true then nameOf nm o.a else o.a,b:=if R.usesB o.kind=true then nameOf nm o.b else o.b,sv:=if (o.sk==2)=true then nameOf nm o.sv else o.sv }
def renT_ (nm:List (Int × Int)) (t:TermD):TermD:={ t with a:=if (((t.kind==2)||(t.kind==4))||(t.kind==5))=true then nameOf nm t.a else t.a,args:=t.args.map (nameOf nm),args0:=t.args0.map (nameOf nm),args1:=t.args1.map (nameOf nm) }

set_option maxHeartbeats 400000 in
theorem con_f90 (k:Int):PX.Con Try.prog 90 [(.J k)] [] 1 100000 (.sc (.bool (R.defines k))) []:=by
 refine PX.con_intro [(.J k)] 9 Try.func90 rfl rfl (by kernel_rfl) (by kernel_rfl) ?_
 intro E a hE hS
 generalize E.w0=w at hS ⊢
 have mix:=mixed
 refine PX.G [] [] 1 [] [] [.au] [0] [] hS hE trivial fun a w hS=>?_
 refine PX.G [(.e 2 (.sc (.bool (decide (1≤k)&&decide (k≤15)))))] [] 1 [] [(2,decide (1≤k))] [.au,.au,.au,.au,.au,.pk,.au] [2] [] hS hE trivial fun a w hS=>?_
 refine wp_ret ?_
 rw [show (.sc (.bool (R.defines k)))=((.sc (.bool (decide (1≤k)&&decide (k≤15)))):PX.PV) from by simp [R.defines]]
 exact PX.rt hS hE (.inl rfl)

theorem usesA_R (k:Int):usesAD k=R.usesA k:=by unfold usesAD R.usesA; rw [show (k==18)=decide (k=18) from rfl]
theorem usesB_R (k:Int):usesBD k=R.usesB k:=by unfold usesBD R.usesB; rw [show (k==16)=decide (k=16) from rfl]
theorem con_f88R {lo top:Nat} (k:Int):PX.Con Try.prog 88 [.sc (.I k)] [] lo top (.sc (.bool (R.usesA k))) []:=by rw [← usesA_R]; exact PX.con_any (con_f88 k)
theorem con_f89R {lo top:Nat} (k:Int):PX.Con Try.prog 89 [.sc (.I k)] [] lo top (.sc (.bool (R.usesB k))) []:=by rw [← usesB_R]; exact PX.con_any (con_f89 k)

set_option maxHeartbeats 400000 in
theorem con_f162 (nm:List (Int × Int)) (v:Int) (hn:nm.length≤1000000):PX.Con Try.prog 162 [(.agg [(.imm 1 (nm.map enc1)),(.imm 1 (nm.map enc2))]),(.J v)] [] 1 100000 (.sc (.I (nameOf nm v))) []:=by
 refine PX.con_intro [(.agg [(.imm 1 (nm.map enc1)),(.imm 1 (nm.map enc2))]),(.J v)] 25 Try.func162 rfl rfl (by kernel_rfl) (by kernel_rfl) ?_
 intro E a hE hS
 generalize E.w0=w at hS ⊢
 have mix:=mixed
 refine PX.G [(.e 2 (.ptr 1 0))] [(1,.box 193 [(.imm 1 (nm.map enc1)),(.imm 1 (nm.map enc2))])] 2 [] [] [.au,.au] [1,2] [1] hS hE trivial fun a w hS=>?_
 refine wp_seq_k fun K1 hK1=>?_
 refine PX.G [(.e 8 (.imm 1 (nm.map enc1))),(.e 9 (.sc (.I (nm.length:Int)))),(.e 10 (.J 0))] [] 2 [.q ((.sc (.I (((nm.map enc1).length:Nat):Int)):PX.PV)=(.sc (.I (nm.length:Int))))] [] [.au,.au,.nm (.sc (.I (nm.length:Int))),.au] [1,2,8,9,10] [1] hS hE ⟨PX.nm_len (by simp),trivial⟩ fun a w hS=>?_
 refine wp_block ?_
 refine wp_loop_ghost (fun m2 a' w'=>∃ k:Nat,m2=nm.length-k∧k≤nm.length∧Upto nm (fun _ p=>!(p.1==v)) (k)∧PX.Sat E 25 [(.e 1 (.J v)),(.e 2 (.ptr 1 0)),(.e 8 (.imm 1 (nm.map enc1))),(.e 9 (.sc (.I (nm.length:Int)))),(.e 10 (.sc (.I (k:Int))))] [(1,.box 193 [(.imm 1 (nm.map enc1)),(.imm 1 (nm.map enc2))])] 2 a' w') (nm.length-0) ⟨0,rfl,Nat.zero_le _,Upto.zero,(PX.cn [] _ _ 2 hS hE)⟩ ?_
 clear hS; rintro m2 a w ⟨k,hm2,hlek,hIk,hS⟩
 refine PX.G [(.e 11 (.sc (.bool (decide ((k:Int)<(nm.length:Int))))))] [] 2 [] [] [.au] [1,2,8,9,10,11] [1] hS hE trivial fun a w hS=>?_
 refine wp_seq_k fun K3 hK3=>?_
 refine PX.cond_s (decide ((k:Int)<(nm.length:Int))) hS (by kernel_rfl) (fun h4=>?_) (fun h4=>?_)
 ·skip
  refine wp_skip ?_
  refine hK3 _ _ ?_
  refine wp_seq_k fun K5 hK5=>?_
  refine wp_block ?_
  have hlty:k<nm.length:=by simpa using h4
  obtain ⟨y,hy⟩:=get_of_lt hlty
  refine PX.G [(.e 5 (.sc (.I (k:Int)))),(.e 6 (.J y.1))] [] 2 [.q ((k:Int)=(k:Int)),.q ((nm.map enc1)[k]?=some (enc1 y))] [] [.au,.ix k (enc1 y),.au,.au,.au] [1,2,5,6,8,9,10] [1] hS hE ⟨rfl,PX.map_get hy,trivial⟩ fun a w hS=>?_
  refine PX.G [(.e 17 (.sc (.bool (y.1==v))))] [] 2 [] [] [.au,.au,.au] [1,2,5,8,9,10,17] [1] hS hE trivial fun a w hS=>?_
  refine PX.cond_s (y.1==v) hS (by kernel_rfl) (fun h6=>?_) (fun h6=>?_)
  ·skip
   refine PX.G [(.e 4 (.J y.2))] [] 2 [.q ((k:Int)=(k:Int)),.q ((nm.map enc2)[k]?=some (enc2 y))] [] [.au,.au,.au,.ix k (enc2 y),.au,.au] [1,2,4,8,9,10] [1] hS hE ⟨rfl,PX.map_get hy,trivial⟩ fun a w hS=>?_
   refine wp_ret ?_
   rw [show (.sc (.I (nameOf nm v)))=((.J y.2):PX.PV) from by rw [name_at hIk hy h6]]
   exact PX.rt hS hE (.inl rfl)
  ·skip
   refine wp_skip ?_
   refine hK5 _ _ ?_
   refine PX.G0 [(.e 10 (.sc (.I ((k+1:Nat):Int))))] [] 2 [.q ((.sc (.I (IntKind.i64.wrap ((k:Int)+1))):PX.PV)=(.sc (.I ((k+1:Nat):Int))))] [] [.nm (.sc (.I ((k+1:Nat):Int))),.au] [1,2,8,9,10] [1] hS hE ⟨PX.nm_int (by rw [IntWalk.i64_in _ (by omega)]; omega),trivial⟩ fun a w hS=>?_
   exact ⟨nm.length-(k+1),by omega,k+1,rfl,by omega,hIk.step hy (by rw [h6]; rfl),(PX.cn [] _ _ 2 hS hE)⟩
 ·skip
  refine wp_exit ?_
  refine hK1 _ _ ?_
  refine PX.G [(.e 4 (.J v))] [] 2 [] [] [.au,.au] [4] [] hS hE trivial fun a w hS=>?_
  refine wp_ret ?_
  rw [show (.sc (.I (nameOf nm v)))=((.J v):PX.PV) from by rw [name_no hIk (le_of_dec h4)]]
  exact PX.rt hS hE (.inl rfl)

set_option maxHeartbeats 400000 in
theorem con_f163 (nm:List (Int × Int)) (l:List Int) (hn:nm.length≤1000000) (hl:l.length≤1000000):PX.Con Try.prog 163 [(.agg [(.imm 1 (nm.map enc1)),(.imm 1 (nm.map enc2))]),(.imm 1 (l.map encI))] [] 1 100000 (.imm 1 ((l.map (nameOf nm)).map encI)) []:=by
 refine PX.con_intro [(.agg [(.imm 1 (nm.map enc1)),(.imm 1 (nm.map enc2))]),(.imm 1 (l.map encI))] 22 Try.func163 rfl rfl (by kernel_rfl) (by kernel_rfl) ?_
 intro E a hE hS
 generalize E.w0=w at hS ⊢
 have mix:=mixed
 refine PX.G [(.e 2 (.ptr 1 0))] [(1,.box 193 [(.imm 1 (nm.map enc1)),(.imm 1 (nm.map enc2))])] 2 [] [] [.au,.au] [1,2] [1] hS hE trivial fun a w hS=>?_
 refine PX.G [(.e 5 (.sc (.slice none 0 0)))] [] 2 [] [] [.au] [1,2,5] [1] hS hE trivial fun a w hS=>?_
 refine wp_seq_k fun K1 hK1=>?_
 refine PX.G [(.e 8 (.imm 1 (l.map encI))),(.e 9 (.sc (.I (l.length:Int)))),(.e 10 (.J 0))] [] 2 [.q ((.sc (.I (((l.map encI).length:Nat):Int)):PX.PV)=(.sc (.I (l.length:Int))))] [] [.au,.nm (.sc (.I (l.length:Int))),.au] [2,5,8,9,10] [1] hS hE ⟨PX.nm_len (by simp),trivial⟩ fun a w hS=>?_
 refine wp_block ?_
 replace hS:=PX.sl [2,5,8,9,10] (PX.reslot (t:=5) (.own 2 1 0) (PX.newrow 3 1 hS (hE.le (by decide))) rfl (PX.nil_own 2 1))
 refine wp_loop_ghost (fun m2 a' w'=>∃ k:Nat,m2=l.length-k∧k≤l.length∧True∧PX.Sat E 22 [(.e 2 (.ptr 1 0)),(.e 5 (.own 3 1 k)),(.e 8 (.imm 1 (l.map encI))),(.e 9 (.sc (.I (l.length:Int)))),(.e 10 (.sc (.I (k:Int))))] [(1,.box 193 [(.imm 1 (nm.map enc1)),(.imm 1 (nm.map enc2))]),(3,.row 3 1 true (((l.take (k)).map (nameOf nm)).map encI))] 4 a' w') (l.length-0) ⟨0,rfl,Nat.zero_le _,trivial,(PX.cn [(3,2)] _ _ 4 hS hE)⟩ ?_
 clear hS; rintro m2 a w ⟨k,hm2,hlek,hIk,hS⟩
 refine PX.G [(.e 11 (.sc (.bool (decide ((k:Int)<(l.length:Int))))))] [] 4 [] [] [.au] [2,5,8,9,10,11] [1,3] hS hE trivial fun a w hS=>?_
 refine wp_seq_k fun K3 hK3=>?_
 refine PX.cond_s (decide ((k:Int)<(l.length:Int))) hS (by kernel_rfl) (fun h4=>?_) (fun h4=>?_)
 ·skip
  refine wp_skip ?_
  refine hK3 _ _ ?_
  refine wp_seq_k fun K5 hK5=>?_
  refine wp_block ?_
  have hlty:k<l.length:=by simpa using h4
  obtain ⟨y,hy⟩:=get_of_lt hlty
  refine PX.G [(.e 7 (.J y))] [] 4 [.q ((k:Int)=(k:Int)),.q ((l.map encI)[k]?=some (encI y))] [] [.ix k (encI y),.au,.au] [2,5,7,8,9,10] [1,3] hS hE ⟨rfl,PX.map_get hy,trivial⟩ fun a w hS=>?_
  refine PX.G0 [(.e 5 (.own 5 1 ((((l.take (k)).map (nameOf nm)).map encI:List (List PX.PV)).length+1)))] [(5,.row 3 1 true (((l.take (k)).map (nameOf nm)).map encI++[[(.sc (.I (nameOf nm y)))]]))] 6 [.q (PX.Con Try.prog 162 [(.agg [(.imm 1 (nm.map enc1)),(.imm 1 (nm.map enc2))]),(.J y)] [] 4 4 (.sc (.I (nameOf nm y))) []),.b (lenIs k (((l.take (k)).map (nameOf nm)).map encI)),.b (lenIs 1 ([[(.sc (.I (nameOf nm y)))]])),.b (Nat.ble ((((l.take (k)).map (nameOf nm)).map encI:List (List PX.PV)).length+1) 1000000000)] [] [.au,.au,.au,.cl [] (.sc (.I (nameOf nm y))) [] 4,.au,.au,.au] [2,5,8,9,10] [1,5] hS hE ⟨PX.con_any (con_f162 nm y hn),by simp [PX.lenIs]; omega,rfl,by simp; omega,trivial⟩ fun a w hS=>?_
  refine hK5 _ _ ?_
  refine PX.G0 [(.e 10 (.sc (.I ((k+1:Nat):Int))))] [] 6 [.q ((.sc (.I (IntKind.i64.wrap ((k:Int)+1))):PX.PV)=(.sc (.I ((k+1:Nat):Int))))] [] [.nm (.sc (.I ((k+1:Nat):Int))),.au] [2,5,8,9,10] [1,5] hS hE ⟨PX.nm_int (by rw [IntWalk.i64_in _ (by omega)]; omega),trivial⟩ fun a w hS=>?_
  have e2:(((l.take (k)).map (nameOf nm)).map encI:List (List PX.PV)).length+1=k+1:=by simp; omega
  have e1:(((l.take (k)).map (nameOf nm)).map encI++[[(.sc (.I (nameOf nm y)))]])=((l.take (k+1)).map (nameOf nm)).map encI:=by rw [List.take_add_one,hy]; simp [encI]
  rw [e2,e1] at hS
  exact ⟨l.length-(k+1),by omega,k+1,rfl,by omega,trivial,(PX.cn [(3,5)] _ _ 4 hS hE)⟩
 ·skip
  refine wp_exit ?_
  refine hK1 _ _ ?_
  refine PX.G [(.e 4 (.own 3 1 k))] [] 4 [] [] [.au,.au] [4] [3] hS hE trivial fun a w hS=>?_
  have hk:l.length≤k:=by simpa using h4
  replace hS:=PX.fz 3 [(.e 4 (.imm 1 (((l.take (k)).map (nameOf nm)).map encI)))] [] [4] [] [.b (PX.lenIs k (((l.take (k)).map (nameOf nm)).map encI))] hS ⟨(by simp [PX.lenIs]; omega),trivial⟩
  refine wp_ret ?_
  rw [show (.imm 1 ((l.map (nameOf nm)).map encI))=((.imm 1 (((l.take (k)).map (nameOf nm)).map encI)):PX.PV) from by rw [List.take_of_length_le hk]]
  exact PX.rt hS hE (.inl rfl)

set_option maxHeartbeats 400000 in
theorem con_f139 (nm:List (Int × Int)) (o:OpD) (hn:nm.length≤1000000):PX.Con Try.prog 139 [(.agg [(.imm 1 (nm.map enc1)),(.imm 1 (nm.map enc2))]),(.agg (encO o))] [] 1 100000 (.agg (encO (renO_ nm o))) []:=by
 refine PX.con_intro [(.agg [(.imm 1 (nm.map enc1)),(.imm 1 (nm.map enc2))]),(.agg (encO o))] 41 Try.func139 rfl rfl (by kernel_rfl) (by kernel_rfl) ?_
 intro E a hE hS
 generalize E.w0=w at hS ⊢
 have mix:=mixed
 refine PX.G [(.e 2 (.ptr 1 0)),(.e 3 (.ptr 2 0)),(.e 4 (.ptr 3 0))] [(1,.box 193 [(.imm 1 (nm.map enc1)),(.imm 1 (nm.map enc2))]),(2,.box 74 (encO o)),(3,.box 74 [(.J 0),(.J 0),(.J 0),(.J 0),(.J 0),(.J 0),(.J 0),(.J 0),(.J 0),(.J 0),(.J 0)])] 4 [] [] [.au,.au,.au] [2,3,4] [1,2,3] hS hE trivial fun a w hS=>?_
 refine PX.seq_cut (E:=E) (N:=41) (T:=[(.e 2 (.ptr 1 0)),(.e 3 (.ptr 2 0)),(.e 4 (.ptr 3 0))]) (H:=[(1,.box 193 [(.imm 1 (nm.map enc1)),(.imm 1 (nm.map enc2))]),(2,.box 74 [(.J o.kind),(.sc (.I (if R.defines o.kind=true then nameOf nm o.dst else o.dst))),(.J o.a),(.J o.b),(.J o.n),(.J o.ctx),(.J o.var),(.J o.piece),(.J o.sk),(.J o.sv),(.J o.sa)]),(3,.box 74 [(.J 0),(.J 0),(.J 0),(.J 0),(.J 0),(.J 0),(.J 0),(.J 0),(.J 0),(.J 0),(.J 0)])]) (nx:=4) ?_ ?_
 ·skip
  refine PX.G [(.e 7 (.sc (.bool (R.defines o.kind))))] [] 4 [.q (PX.Con Try.prog 90 [(.J o.kind)] [] 4 4 (.sc (.bool (R.defines o.kind))) [])] [] [.au,.au,.cl [] (.sc (.bool (R.defines o.kind))) [] 4] [2,3,4,7] [1,2,3] hS hE ⟨PX.con_any (con_f90 o.kind),trivial⟩ fun a w hS=>?_
  refine PX.cond_s (R.defines o.kind) hS (by kernel_rfl) (fun h1=>?_) (fun h1=>?_)
  ·skip
   refine PX.G0 [] [(2,.box 74 [(.J o.kind),(.sc (.I (nameOf nm o.dst))),(.J o.a),(.J o.b),(.J o.n),(.J o.ctx),(.J o.var),(.J o.piece),(.J o.sk),(.J o.sv),(.J o.sa)])] 4 [.q (PX.Con Try.prog 162 [(.agg [(.imm 1 (nm.map enc1)),(.imm 1 (nm.map enc2))]),(.J o.dst)] [] 4 4 (.sc (.I (nameOf nm o.dst))) [])] [] [.au,.au,.au,.cl [] (.sc (.I (nameOf nm o.dst))) [] 4,.au,.au] [2,3,4] [1,2,3] hS hE ⟨PX.con_any (con_f162 nm o.dst hn),trivial⟩ fun a w hS=>?_
   replace hS:=PX.recell (id:=2) (j:=1) (.sc (.I (if R.defines o.kind=true then nameOf nm o.dst else o.dst))) hS rfl rfl rfl (fun _ _ _ _ h=>(show PX.PV.sc (.I (nameOf nm o.dst))=.sc (.I (if R.defines o.kind=true then nameOf nm o.dst else o.dst)) from by rw [if_pos h1]) ▸ h)
   exact (PX.cn [] _ _ 4 hS hE)
  ·skip
   refine wp_skip ?_
   replace hS:=PX.recell (id:=2) (j:=1) (.sc (.I (if R.defines o.kind=true then nameOf nm o.dst else o.dst))) hS rfl rfl rfl (fun _ _ _ _ h=>(show PX.PV.sc (.I o.dst)=.sc (.I (if R.defines o.kind=true then nameOf nm o.dst else o.dst)) from by rw [if_neg (by rw [h1]; simp)]) ▸ h)
   replace hS:=PX.sl [2,3,4] hS
   exact (PX.cn [] _ _ 4 hS hE)
 clear hS; intro a w hS
 refine PX.seq_cut (E:=E) (N:=41) (T:=[(.e 2 (.ptr 1 0)),(.e 3 (.ptr 2 0)),(.e 4 (.ptr 3 0))]) (H:=[(1,.box 193 [(.imm 1 (nm.map enc1)),(.imm 1 (nm.map enc2))]),(2,.box 74 [(.J o.kind),(.sc (.I (if R.defines o.kind=true then nameOf nm o.dst else o.dst))),(.sc (.I (if R.usesA o.kind=true then nameOf nm o.a else o.a))),(.J o.b),(.J o.n),(.J o.ctx),(.J o.var),(.J o.piece),(.J o.sk),(.J o.sv),(.J o.sa)]),(3,.box 74 [(.J 0),(.J 0),(.J 0),(.J 0),(.J 0),(.J 0),(.J 0),(.J 0),(.J 0),(.J 0),(.J 0)])]) (nx:=4) ?_ ?_
 ·skip
  refine PX.G [(.e 15 (.sc (.bool (R.usesA o.kind))))] [] 4 [.q (PX.Con Try.prog 88 [(.J o.kind)] [] 4 4 (.sc (.bool (R.usesA o.kind))) [])] [] [.au,.au,.cl [] (.sc (.bool (R.usesA o.kind))) [] 4] [2,3,4,15] [1,2,3] hS hE ⟨con_f88R o.kind,trivial⟩ fun a w hS=>?_
  refine PX.cond_s (R.usesA o.kind) hS (by kernel_rfl) (fun h2=>?_) (fun h2=>?_)
  ·skip
   refine PX.G0 [] [(2,.box 74 [(.J o.kind),(.sc (.I (if R.defines o.kind=true then nameOf nm o.dst else o.dst))),(.sc (.I (nameOf nm o.a))),(.J o.b),(.J o.n),(.J o.ctx),(.J o.var),(.J o.piece),(.J o.sk),(.J o.sv),(.J o.sa)])] 4 [.q (PX.Con Try.prog 162 [(.agg [(.imm 1 (nm.map enc1)),(.imm 1 (nm.map enc2))]),(.J o.a)] [] 4 4 (.sc (.I (nameOf nm o.a))) [])] [] [.au,.au,.au,.cl [] (.sc (.I (nameOf nm o.a))) [] 4,.au,.au] [2,3,4] [1,2,3] hS hE ⟨PX.con_any (con_f162 nm o.a hn),trivial⟩ fun a w hS=>?_
   replace hS:=PX.recell (id:=2) (j:=2) (.sc (.I (if R.usesA o.kind=true then nameOf nm o.a else o.a))) hS rfl rfl rfl (fun _ _ _ _ h=>(show PX.PV.sc (.I (nameOf nm o.a))=.sc (.I (if R.usesA o.kind=true then nameOf nm o.a else o.a)) from by rw [if_pos h2]) ▸ h)
   exact (PX.cn [] _ _ 4 hS hE)
  ·skip
   refine wp_skip ?_
   replace hS:=PX.recell (id:=2) (j:=2) (.sc (.I (if R.usesA o.kind=true then nameOf nm o.a else o.a))) hS rfl rfl rfl (fun _ _ _ _ h=>(show PX.PV.sc (.I o.a)=.sc (.I (if R.usesA o.kind=true then nameOf nm o.a else o.a)) from by rw [if_neg (by rw [h2]; simp)]) ▸ h)
   replace hS:=PX.sl [2,3,4] hS
   exact (PX.cn [] _ _ 4 hS hE)
 clear hS; intro a w hS
 refine PX.seq_cut (E:=E) (N:=41) (T:=[(.e 2 (.ptr 1 0)),(.e 3 (.ptr 2 0)),(.e 4 (.ptr 3 0))]) (H:=[(1,.box 193 [(.imm 1 (nm.map enc1)),(.imm 1 (nm.map enc2))]),(2,.box 74 [(.J o.kind),(.sc (.I (if R.defines o.kind=true then nameOf nm o.dst else o.dst))),(.sc (.I (if R.usesA o.kind=true then nameOf nm o.a else o.a))),(.sc (.I (if R.usesB o.kind=true then nameOf nm o.b else o.b))),(.J o.n),(.J o.ctx),(.J o.var),(.J o.piece),(.J o.sk),(.J o.sv),(.J o.sa)]),(3,.box 74 [(.J 0),(.J 0),(.J 0),(.J 0),(.J 0),(.J 0),(.J 0),(.J 0),(.J 0),(.J 0),(.J 0)])]) (nx:=4) ?_ ?_
 ·skip
  refine PX.G [(.e 23 (.sc (.bool (R.usesB o.kind))))] [] 4 [.q (PX.Con Try.prog 89 [(.J o.kind)] [] 4 4 (.sc (.bool (R.usesB o.kind))) [])] [] [.au,.au,.cl [] (.sc (.bool (R.usesB o.kind))) [] 4] [2,3,4,23] [1,2,3] hS hE ⟨con_f89R o.kind,trivial⟩ fun a w hS=>?_
  refine PX.cond_s (R.usesB o.kind) hS (by kernel_rfl) (fun h3=>?_) (fun h3=>?_)
  ·skip
   refine PX.G0 [] [(2,.box 74 [(.J o.kind),(.sc (.I (if R.defines o.kind=true then nameOf nm o.dst else o.dst))),(.sc (.I (if R.usesA o.kind=true then nameOf nm o.a else o.a))),(.sc (.I (nameOf nm o.b))),(.J o.n),(.J o.ctx),(.J o.var),(.J o.piece),(.J o.sk),(.J o.sv),(.J o.sa)])] 4 [.q (PX.Con Try.prog 162 [(.agg [(.imm 1 (nm.map enc1)),(.imm 1 (nm.map enc2))]),(.J o.b)] [] 4 4 (.sc (.I (nameOf nm o.b))) [])] [] [.au,.au,.au,.cl [] (.sc (.I (nameOf nm o.b))) [] 4,.au,.au] [2,3,4] [1,2,3] hS hE ⟨PX.con_any (con_f162 nm o.b hn),trivial⟩ fun a w hS=>?_
   replace hS:=PX.recell (id:=2) (j:=3) (.sc (.I (if R.usesB o.kind=true then nameOf nm o.b else o.b))) hS rfl rfl rfl (fun _ _ _ _ h=>(show PX.PV.sc (.I (nameOf nm o.b))=.sc (.I (if R.usesB o.kind=true then nameOf nm o.b else o.b)) from by rw [if_pos h3]) ▸ h)
   exact (PX.cn [] _ _ 4 hS hE)
  ·skip
   refine wp_skip ?_
   replace hS:=PX.recell (id:=2) (j:=3) (.sc (.I (if R.usesB o.kind=true then nameOf nm o.b else o.b))) hS rfl rfl rfl (fun _ _ _ _ h=>(show PX.PV.sc (.I o.b)=.sc (.I (if R.usesB o.kind=true then nameOf nm o.b else o.b)) from by rw [if_neg (by rw [h3]; simp)]) ▸ h)
   replace hS:=PX.sl [2,3,4] hS
   exact (PX.cn [] _ _ 4 hS hE)
 clear hS; intro a w hS
 refine PX.seq_cut (E:=E) (N:=41) (T:=[(.e 3 (.ptr 2 0)),(.e 4 (.ptr 3 0))]) (H:=[(2,.box 74 [(.J o.kind),(.sc (.I (if R.defines o.kind=true then nameOf nm o.dst else o.dst))),(.sc (.I (if R.usesA o.kind=true then nameOf nm o.a else o.a))),(.sc (.I (if R.usesB o.kind=true then nameOf nm o.b else o.b))),(.J o.n),(.J o.ctx),(.J o.var),(.J o.piece),(.J o.sk),(.sc (.I (if (o.sk==2)=true then nameOf nm o.sv else o.sv))),(.J o.sa)]),(3,.box 74 [(.J 0),(.J 0),(.J 0),(.J 0),(.J 0),(.J 0),(.J 0),(.J 0),(.J 0),(.J 0),(.J 0)])]) (nx:=4) ?_ ?_
 ·skip
  refine PX.G [(.e 32 (.sc (.bool (o.sk==2))))] [] 4 [] [] [.au,.au,.au,.au] [2,3,4,32] [1,2,3] hS hE trivial fun a w hS=>?_
  refine PX.cond_s (o.sk==2) hS (by kernel_rfl) (fun h4=>?_) (fun h4=>?_)
  ·skip
   refine PX.G0 [] [(2,.box 74 [(.J o.kind),(.sc (.I (if R.defines o.kind=true then nameOf nm o.dst else o.dst))),(.sc (.I (if R.usesA o.kind=true then nameOf nm o.a else o.a))),(.sc (.I (if R.usesB o.kind=true then nameOf nm o.b else o.b))),(.J o.n),(.J o.ctx),(.J o.var),(.J o.piece),(.J o.sk),(.sc (.I (nameOf nm o.sv))),(.J o.sa)])] 4 [.q (PX.Con Try.prog 162 [(.agg [(.imm 1 (nm.map enc1)),(.imm 1 (nm.map enc2))]),(.J o.sv)] [] 4 4 (.sc (.I (nameOf nm o.sv))) [])] [] [.au,.au,.au,.au,.cl [] (.sc (.I (nameOf nm o.sv))) [] 4,.au,.au,.au] [3,4] [2,3] hS hE ⟨PX.con_any (con_f162 nm o.sv hn),trivial⟩ fun a w hS=>?_
   replace hS:=PX.recell (id:=2) (j:=9) (.sc (.I (if (o.sk==2)=true then nameOf nm o.sv else o.sv))) hS rfl rfl rfl (fun _ _ _ _ h=>(show PX.PV.sc (.I (nameOf nm o.sv))=.sc (.I (if (o.sk==2)=true then nameOf nm o.sv else o.sv)) from by rw [if_pos h4]) ▸ h)
   exact (PX.cn [] _ _ 4 hS hE)
  ·skip
   refine wp_skip ?_
   replace hS:=PX.recell (id:=2) (j:=9) (.sc (.I (if (o.sk==2)=true then nameOf nm o.sv else o.sv))) hS rfl rfl rfl (fun _ _ _ _ h=>(show PX.PV.sc (.I o.sv)=.sc (.I (if (o.sk==2)=true then nameOf nm o.sv else o.sv)) from by rw [if_neg (by rw [h4]; simp)]) ▸ h)
   replace hS:=PX.sl [3,4] hS
   exact (PX.cn [] _ _ 4 hS hE)
 clear hS; intro a w hS
 refine PX.G [] [(3,.box 74 [(.J o.kind),(.sc (.I (if R.defines o.kind=true then nameOf nm o.dst else o.dst))),(.sc (.I (if R.usesA o.kind=true then nameOf nm o.a else o.a))),(.sc (.I (if R.usesB o.kind=true then nameOf nm o.b else o.b))),(.J o.n),(.J o.ctx),(.J o.var),(.J o.piece),(.J o.sk),(.sc (.I (if (o.sk==2)=true then nameOf nm o.sv else o.sv))),(.J o.sa)])] 4 [] [] [.au,.au] [4] [3] hS hE trivial fun a w hS=>?_
 refine wp_ret ?_
 exact PX.rt hS hE (.inl rfl)

set_option maxHeartbeats 400000 in
theorem con_f138 (nm:List (Int × Int)) (t:TermD) (hn:nm.length≤1000000) (h1:t.args.length≤1000000) (h2:t.args0.length≤1000000) (h3:t.args1.length≤1000000):PX.Con Try.prog 138 [(.agg [(.imm 1 (nm.map enc1)),(.imm 1 (nm.map enc2))]),(.agg [(.J t.kind),(.J t.a),(.J t.n),(.imm 1 (t.args.map encI)),(.J t.b0),(.imm 1 (t.args0.map encI)),(.J t.b1),(.imm 1 (t.args1.map encI))])] [] 1 100000 (.agg [.sc (.I (renT_ nm t).kind),.sc (.I (renT_ nm t).a),.sc (.I (renT_ nm t).n),.imm 1 ((renT_ nm t).args.map encI),.sc (.I (renT_ nm t).b0),.imm 1 ((renT_ nm t).args0.map encI),.sc (.I (renT_ nm t).b1),.imm 1 ((renT_ nm t).args1.map encI)]) []:=by
 refine PX.con_intro [(.agg [(.imm 1 (nm.map enc1)),(.imm 1 (nm.map enc2))]),(.agg [(.J t.kind),(.J t.a),(.J t.n),(.imm 1 (t.args.map encI)),(.J t.b0),(.imm 1 (t.args0.map encI)),(.J t.b1),(.imm 1 (t.args1.map encI))])] 45 Try.func138 rfl rfl (by kernel_rfl) (by kernel_rfl) ?_
 intro E a hE hS
 generalize E.w0=w at hS ⊢
 have mix:=mixed
 refine PX.G [(.e 2 (.ptr 1 0)),(.e 3 (.ptr 2 0)),(.e 4 (.ptr 3 0))] [(1,.box 193 [(.imm 1 (nm.map enc1)),(.imm 1 (nm.map enc2))]),(2,.box 60 [(.J t.kind),(.J t.a),(.J t.n),(.imm 1 (t.args.map encI)),(.J t.b0),(.imm 1 (t.args0.map encI)),(.J t.b1),(.imm 1 (t.args1.map encI))]),(3,.box 60 [(.J 0),(.J 0),(.J 0),(.sc (.slice none 0 0)),(.J 0),(.sc (.slice none 0 0)),(.J 0),(.sc (.slice none 0 0))])] 4 [] [] [.au,.au,.au] [2,3,4] [1,2,3] hS hE trivial fun a w hS=>?_
 refine PX.seq_cut (E:=E) (N:=45) (T:=[(.e 2 (.ptr 1 0)),(.e 3 (.ptr 2 0)),(.e 4 (.ptr 3 0))]) (H:=[(1,.box 193 [(.imm 1 (nm.map enc1)),(.imm 1 (nm.map enc2))]),(2,.box 60 [(.J t.kind),(.sc (.I (if (((t.kind==2)||(t.kind==4))||(t.kind==5))=true then nameOf nm t.a else t.a))),(.J t.n),(.imm 1 (t.args.map encI)),(.J t.b0),(.imm 1 (t.args0.map encI)),(.J t.b1),(.imm 1 (t.args1.map encI))]),(3,.box 60 [(.J 0),(.J 0),(.J 0),(.sc (.slice none 0 0)),(.J 0),(.sc (.slice none 0 0)),(.J 0),(.sc (.slice none 0 0))])]) (nx:=4) ?_ ?_
 ·skip
  refine PX.G [(.e 18 (.sc (.bool (((t.kind==2)||(t.kind==4))||(t.kind==5)))))] [] 4 [] [(3,(t.kind==2)),(8,((t.kind==2)||(t.kind==4)))] [.au,.au,.au,.au,.au,.au,.au,.pk,.au,.au,.au,.au,.pk] [2,3,4,18] [1,2,3] hS hE trivial fun a w hS=>?_
  refine PX.cond_s (((t.kind==2)||(t.kind==4))||(t.kind==5)) hS (by kernel_rfl) (fun h1=>?_) (fun h1=>?_)
  ·skip
   refine PX.G0 [] [(2,.box 60 [(.J t.kind),(.sc (.I (nameOf nm t.a))),(.J t.n),(.imm 1 (t.args.map encI)),(.J t.b0),(.imm 1 (t.args0.map encI)),(.J t.b1),(.imm 1 (t.args1.map encI))])] 4 [.q (PX.Con Try.prog 162 [(.agg [(.imm 1 (nm.map enc1)),(.imm 1 (nm.map enc2))]),(.J t.a)] [] 4 4 (.sc (.I (nameOf nm t.a))) [])] [] [.au,.au,.au,.cl [] (.sc (.I (nameOf nm t.a))) [] 4,.au,.au] [2,3,4] [1,2,3] hS hE ⟨PX.con_any (con_f162 nm t.a hn),trivial⟩ fun a w hS=>?_
   replace hS:=PX.recell (id:=2) (j:=1) (.sc (.I (if (((t.kind==2)||(t.kind==4))||(t.kind==5))=true then nameOf nm t.a else t.a))) hS rfl rfl rfl (fun _ _ _ _ h=>(show PX.PV.sc (.I (nameOf nm t.a))=.sc (.I (if (((t.kind==2)||(t.kind==4))||(t.kind==5))=true then nameOf nm t.a else t.a)) from by rw [if_pos h1]) ▸ h)
   exact (PX.cn [] _ _ 4 hS hE)
  ·skip
   refine wp_skip ?_
   replace hS:=PX.recell (id:=2) (j:=1) (.sc (.I (if (((t.kind==2)||(t.kind==4))||(t.kind==5))=true then nameOf nm t.a else t.a))) hS rfl rfl rfl (fun _ _ _ _ h=>(show PX.PV.sc (.I t.a)=.sc (.I (if (((t.kind==2)||(t.kind==4))||(t.kind==5))=true then nameOf nm t.a else t.a)) from by rw [if_neg (by rw [h1]; simp)]) ▸ h)
   replace hS:=PX.sl [2,3,4] hS
   exact (PX.cn [] _ _ 4 hS hE)
 clear hS; intro a w hS
 refine PX.G [] [(2,.box 60 [(.J t.kind),(.sc (.I (if (((t.kind==2)||(t.kind==4))||(t.kind==5))=true then nameOf nm t.a else t.a))),(.J t.n),(.imm 1 ((t.args.map (nameOf nm)).map encI)),(.J t.b0),(.imm 1 (t.args0.map encI)),(.J t.b1),(.imm 1 (t.args1.map encI))])] 4 [.q (PX.Con Try.prog 163 [(.agg [(.imm 1 (nm.map enc1)),(.imm 1 (nm.map enc2))]),(.imm 1 (t.args.map encI))] [] 4 4 (.imm 1 ((t.args.map (nameOf nm)).map encI)) [])] [] [.au,.au,.au,.cl [] (.imm 1 ((t.args.map (nameOf nm)).map encI)) [] 4,.au,.au] [2,3,4] [1,2,3] hS hE ⟨PX.con_any (con_f163 nm t.args hn (by assumption)),trivial⟩ fun a w hS=>?_
 refine wp_seq_k fun K2 hK2=>?_
 refine PX.G [(.e 5 (.J 0))] [] 4 [] [] [.au] [2,3,4,5] [1,2,3] hS hE trivial fun a w hS=>?_
 refine wp_block ?_
 refine wp_loop_rounds 3 ?_
 rw [rounds_succ]
 refine wp_seq_k fun K3 hK3=>?_
 refine PX.G [(.e 30 (.sc (.bool true)))] [] 4 [] [] [.au,.au] [2,3,4,5,30] [1,2,3] hS hE trivial fun a w hS=>?_
 refine PX.cond_s true hS (by kernel_rfl) (fun h4=>?_) (fun h4=>nomatch h4)
 refine wp_skip ?_
 refine hK3 _ _ ?_
 refine wp_seq_k fun K5 hK5=>?_
 refine wp_block ?_
 refine PX.D0 [] [(2,.box 60 [(.J t.kind),(.sc (.I (if (((t.kind==2)||(t.kind==4))||(t.kind==5))=true then nameOf nm t.a else t.a))),(.J t.n),(.imm 1 ((t.args.map (nameOf nm)).map encI)),(.J t.b0),(.imm 1 ((t.args0.map (nameOf nm)).map encI)),(.J t.b1),(.imm 1 (t.args1.map encI))])] 4 [.q (PX.Con Try.prog 163 [(.agg [(.imm 1 (nm.map enc1)),(.imm 1 (nm.map enc2))]),(.imm 1 (t.args0.map encI))] [] 4 4 (.imm 1 ((t.args0.map (nameOf nm)).map encI)) [])] [] [.au,.au,.au,.au,.au,.au,.au,.cl [] (.imm 1 ((t.args0.map (nameOf nm)).map encI)) [] 4,.au,.au,.au,.au] [2,3,4,5] [1,2,3] hS mixed hE ⟨PX.con_any (con_f163 nm t.args0 hn (by assumption)),trivial⟩ fun a w hS=>?_
 refine hK5 _ _ ?_
 refine PX.G0 [(.e 5 (.J 1))] [] 4 [] [] [.au,.au,.au] [2,3,4,5] [1,2,3] hS hE trivial fun a w hS=>?_
 show Code.rounds _ _ _ 2 _ _
 rw [rounds_succ]
 refine wp_seq_k fun K6 hK6=>?_
 refine PX.G [(.e 30 (.sc (.bool true)))] [] 4 [] [] [.au,.au] [2,3,4,5,30] [1,2,3] hS hE trivial fun a w hS=>?_
 refine PX.cond_s true hS (by kernel_rfl) (fun h7=>?_) (fun h7=>nomatch h7)
 refine wp_skip ?_
 refine hK6 _ _ ?_
 refine wp_seq_k fun K8 hK8=>?_
 refine wp_block ?_
 refine PX.D0 [] [(2,.box 60 [(.J t.kind),(.sc (.I (if (((t.kind==2)||(t.kind==4))||(t.kind==5))=true then nameOf nm t.a else t.a))),(.J t.n),(.imm 1 ((t.args.map (nameOf nm)).map encI)),(.J t.b0),(.imm 1 ((t.args0.map (nameOf nm)).map encI)),(.J t.b1),(.imm 1 ((t.args1.map (nameOf nm)).map encI))])] 4 [.q (PX.Con Try.prog 163 [(.agg [(.imm 1 (nm.map enc1)),(.imm 1 (nm.map enc2))]),(.imm 1 (t.args1.map encI))] [] 4 4 (.imm 1 ((t.args1.map (nameOf nm)).map encI)) [])] [] [.au,.au,.au,.au,.au,.au,.au,.cl [] (.imm 1 ((t.args1.map (nameOf nm)).map encI)) [] 4,.au,.au,.au,.au] [2,3,4,5] [1,2,3] hS mixed hE ⟨PX.con_any (con_f163 nm t.args1 hn (by assumption)),trivial⟩ fun a w hS=>?_
 refine hK8 _ _ ?_
 refine PX.G0 [(.e 5 (.J 2))] [] 4 [] [] [.au,.au,.au] [2,3,4,5] [1,2,3] hS hE trivial fun a w hS=>?_
 show Code.rounds _ _ _ 1 _ _
 rw [rounds_succ]
 refine wp_seq_k fun K9 hK9=>?_
 refine PX.G [(.e 30 (.sc (.bool false)))] [] 4 [] [] [.au,.au] [2,3,4,5,30] [1,2,3] hS hE trivial fun a w hS=>?_
 refine PX.cond_s false hS (by kernel_rfl) (fun h10=>nomatch h10) (fun h10=>?_)
 refine wp_exit ?_
 refine hK2 _ _ ?_
 refine PX.G [] [(3,.box 60 [(.J t.kind),(.sc (.I (if (((t.kind==2)||(t.kind==4))||(t.kind==5))=true then nameOf nm t.a else t.a))),(.J t.n),(.imm 1 ((t.args.map (nameOf nm)).map encI)),(.J t.b0),(.imm 1 ((t.args0.map (nameOf nm)).map encI)),(.J t.b1),(.imm 1 ((t.args1.map (nameOf nm)).map encI))])] 4 [] [] [.au,.au] [4] [3] hS hE trivial fun a w hS=>?_
 refine wp_ret ?_
 exact PX.rt hS hE (.inl rfl)
end Go.Proofs.Ytlkcidmmpeebeaa

/- Proved: debuggerref09: Edges,Values,Top -/
namespace Go.Proofs.Ytlkcidmmpeebeaa
open Go.RowKit Go.PX
set_option maxRecDepth 100000
def stepE (t n x:Int):Int:=if (x==t)=true then IntKind.i64.wrap (n+1) else n
def edgesK (c:CodeD) (t:Int) (k:Nat):Int:=(c.blocks.take k).foldl (fun n b=>stepE t (stepE t n b.term.b0) b.term.b1) 0
theorem edgesK_succ {c:CodeD} {t:Int} {k:Nat} {y:BlockD} (hy:c.blocks[k]?=some y):edgesK c t (k+1)=stepE t (stepE t (edgesK c t k) y.term.b0) y.term.b1:=by
 unfold edgesK; rw [List.take_add_one,hy,List.foldl_append]; rfl
def mx (a b:Int):Int:=if b > a then b else a
def topD (b:BlockD):Int:=(R.values b).foldl mx (b.params-1)
def topK (b:BlockD) (k:Nat):Int:=((R.values b).take k).foldl mx (b.params-1)
theorem topK_succ {b:BlockD} {k:Nat} {y:Int} (hy:(R.values b)[k]?=some y):topK b (k+1)=mx (topK b k) y:=by
 unfold topK; rw [List.take_add_one,hy,List.foldl_append]; rfl
theorem dsts_take {ops:List OpD} {k:Nat} {y:OpD} (hy:ops[k]?=some y):dsts (ops.take (k+1))=dsts (ops.take k)++(if R.defines y.kind=true then [y.dst] else []):=by
 unfold dsts; rw [List.take_add_one,hy,List.filter_append,List.map_append]
 by_cases h:R.defines y.kind=true <;> simp [List.filter_cons,h]
theorem values_eq2 (b:BlockD):R.values b=R.upto b.params++dsts b.ops:=rfl
theorem upto_len2 (n:Int):(R.upto n).length=n.toNat:=by simp [R.upto]
theorem dsts_len (l:List OpD):(dsts l).length≤l.length:=by unfold dsts; rw [List.length_map]; exact List.length_filter_le _ _

set_option maxHeartbeats 400000 in
theorem con_f102 (c:CodeD) (t:Int) (hl:c.blocks.length≤140737488351232):PX.Con Try.prog 102 [(codeP c),(.J t)] [] 1 100000 (.sc (.I (edgesK c t c.blocks.length))) []:=by
 refine PX.con_intro [(codeP c),(.J t)] 32 Try.func102 rfl rfl (by kernel_rfl) (by kernel_rfl) ?_
 intro E a hE hS
 generalize E.w0=w at hS ⊢
 have mix:=mixed
 refine PX.G [(.e 2 (.ptr 1 0))] [(1,.box 26 (codeL c))] 2 [] [] [.au,.au] [1,2] [1] hS hE trivial fun a w hS=>?_
 refine PX.G [(.e 5 (.J 0))] [] 2 [] [] [.au] [1,2,5] [1] hS hE trivial fun a w hS=>?_
 refine wp_seq_k fun K1 hK1=>?_
 refine PX.G [(.e 10 (.imm 10 (c.blocks.map encB))),(.e 11 (.sc (.I (c.blocks.length:Int)))),(.e 12 (.J 0))] [] 2 [.q ((.sc (.I (((c.blocks.map encB).length:Nat):Int)):PX.PV)=(.sc (.I (c.blocks.length:Int))))] [] [.au,.au,.nm (.sc (.I (c.blocks.length:Int))),.au] [1,5,10,11,12] [] hS hE ⟨PX.nm_len (by simp),trivial⟩ fun a w hS=>?_
 refine wp_block ?_
 refine wp_loop_ghost (fun m2 a' w'=>∃ k:Nat,m2=c.blocks.length-k∧k≤c.blocks.length∧True∧PX.Sat E 32 [(.e 1 (.J t)),(.e 5 (.sc (.I (edgesK c t (k))))),(.e 10 (.imm 10 (c.blocks.map encB))),(.e 11 (.sc (.I (c.blocks.length:Int)))),(.e 12 (.sc (.I (k:Int))))] [] 1 a' w') (c.blocks.length-0) ⟨0,rfl,Nat.zero_le _,trivial,(PX.cn [] _ _ 1 hS hE)⟩ ?_
 clear hS; rintro m2 a w ⟨k,hm2,hlek,hIk,hS⟩
 refine PX.G [(.e 13 (.sc (.bool (decide ((k:Int)<(c.blocks.length:Int))))))] [] 1 [] [] [.au] [1,5,10,11,12,13] [] hS hE trivial fun a w hS=>?_
 refine wp_seq_k fun K3 hK3=>?_
 refine PX.cond_s (decide ((k:Int)<(c.blocks.length:Int))) hS (by kernel_rfl) (fun h4=>?_) (fun h4=>?_)
 ·skip
  refine wp_skip ?_
  refine hK3 _ _ ?_
  refine wp_seq_k fun K5 hK5=>?_
  refine wp_block ?_
  have hlty:k<c.blocks.length:=by simpa using h4
  obtain ⟨y,hy⟩:=get_of_lt hlty
  refine PX.G [(.e 7 (.ptr 1 0))] [(1,.box 62 (encB y))] 2 [.q ((k:Int)=(k:Int)),.q ((c.blocks.map encB)[k]?=some (encB y))] [] [.ix k (encB y),.au,.au,.au] [1,5,7,10,11,12] [1] hS hE ⟨rfl,PX.map_get hy,trivial⟩ fun a w hS=>?_
  refine PX.G [(.e 8 (.J 0))] [] 2 [] [] [.au] [1,5,7,8,10,11,12] [1] hS hE trivial fun a w hS=>?_
  refine wp_block ?_
  refine wp_loop_rounds 3 ?_
  rw [rounds_succ]
  refine wp_seq_k fun K6 hK6=>?_
  refine PX.G [(.e 17 (.sc (.bool true)))] [] 2 [] [] [.au,.au] [1,5,7,8,10,11,12,17] [1] hS hE trivial fun a w hS=>?_
  refine PX.cond_s true hS (by kernel_rfl) (fun h7=>?_) (fun h7=>nomatch h7)
  refine wp_skip ?_
  refine hK6 _ _ ?_
  refine wp_seq_k fun K8 hK8=>?_
  refine wp_block ?_
  refine PX.G [(.e 27 (.sc (.bool (y.term.b0==t))))] [] 2 [] [] [.au,.au,.au,.au,.au,.au,.au,.au] [1,5,7,8,10,11,12,27] [1] hS hE trivial fun a w hS=>?_
  refine PX.cond_s (y.term.b0==t) hS (by kernel_rfl) (fun h9=>?_) (fun h9=>?_)
  ·skip
   refine PX.G0 [(.e 5 (.sc (.I (IntKind.i64.wrap ((edgesK c t (k))+1)))))] [] 2 [] [] [.au,.au,.au] [1,5,7,8,10,11,12] [1] hS hE trivial fun a w hS=>?_
   refine hK8 _ _ ?_
   refine PX.G0 [(.e 8 (.J 1))] [] 2 [] [] [.au,.au,.au] [1,5,7,8,10,11,12] [1] hS hE trivial fun a w hS=>?_
   show Code.rounds _ _ _ 2 _ _
   rw [rounds_succ]
   refine wp_seq_k fun K10 hK10=>?_
   refine PX.G [(.e 17 (.sc (.bool true)))] [] 2 [] [] [.au,.au] [1,5,7,8,10,11,12,17] [1] hS hE trivial fun a w hS=>?_
   refine PX.cond_s true hS (by kernel_rfl) (fun h11=>?_) (fun h11=>nomatch h11)
   refine wp_skip ?_
   refine hK10 _ _ ?_
   refine wp_seq_k fun K12 hK12=>?_
   refine wp_block ?_
   refine PX.G [(.e 27 (.sc (.bool (y.term.b1==t))))] [] 2 [] [] [.au,.au,.au,.au,.au,.au,.au,.au] [1,5,7,8,10,11,12,27] [1] hS hE trivial fun a w hS=>?_
   refine PX.cond_s (y.term.b1==t) hS (by kernel_rfl) (fun h13=>?_) (fun h13=>?_)
   ·skip
    refine PX.G0 [(.e 5 (.sc (.I (IntKind.i64.wrap ((IntKind.i64.wrap ((edgesK c t (k))+1))+1)))))] [] 2 [] [] [.au,.au,.au] [1,5,7,8,10,11,12] [1] hS hE trivial fun a w hS=>?_
    refine hK12 _ _ ?_
    refine PX.G0 [(.e 8 (.J 2))] [] 2 [] [] [.au,.au,.au] [1,5,7,8,10,11,12] [1] hS hE trivial fun a w hS=>?_
    show Code.rounds _ _ _ 1 _ _
    rw [rounds_succ]
    refine wp_seq_k fun K14 hK14=>?_
    refine PX.G [(.e 17 (.sc (.bool false)))] [] 2 [] [] [.au,.au] [1,5,7,8,10,11,12,17] [1] hS hE trivial fun a w hS=>?_
    refine PX.cond_s false hS (by kernel_rfl) (fun h15=>nomatch h15) (fun h15=>?_)
    refine wp_exit ?_
    refine hK5 _ _ ?_
    refine PX.G0 [(.e 12 (.sc (.I ((k+1:Nat):Int))))] [] 2 [.q ((.sc (.I (IntKind.i64.wrap ((k:Int)+1))):PX.PV)=(.sc (.I ((k+1:Nat):Int))))] [] [.nm (.sc (.I ((k+1:Nat):Int))),.au] [1,5,10,11,12] [] hS hE ⟨PX.nm_int (by rw [IntWalk.i64_in _ (by omega)]; omega),trivial⟩ fun a w hS=>?_
    have e1:(IntKind.i64.wrap ((IntKind.i64.wrap ((edgesK c t (k))+1))+1))=edgesK c t (k+1):=by rw [edgesK_succ hy]; simp only [stepE,h9,h13,if_true,Bool.false_eq_true,if_false]
    rw [e1] at hS
    exact ⟨c.blocks.length-(k+1),by omega,k+1,rfl,by omega,trivial,(PX.cn [] _ _ 1 hS hE)⟩
   ·skip
    refine wp_skip ?_
    refine hK12 _ _ ?_
    refine PX.G0 [(.e 8 (.J 2))] [] 2 [] [] [.au,.au,.au] [1,5,7,8,10,11,12] [1] hS hE trivial fun a w hS=>?_
    show Code.rounds _ _ _ 1 _ _
    rw [rounds_succ]
    refine wp_seq_k fun K16 hK16=>?_
    refine PX.G [(.e 17 (.sc (.bool false)))] [] 2 [] [] [.au,.au] [1,5,7,8,10,11,12,17] [1] hS hE trivial fun a w hS=>?_
    refine PX.cond_s false hS (by kernel_rfl) (fun h17=>nomatch h17) (fun h17=>?_)
    refine wp_exit ?_
    refine hK5 _ _ ?_
    refine PX.G0 [(.e 12 (.sc (.I ((k+1:Nat):Int))))] [] 2 [.q ((.sc (.I (IntKind.i64.wrap ((k:Int)+1))):PX.PV)=(.sc (.I ((k+1:Nat):Int))))] [] [.nm (.sc (.I ((k+1:Nat):Int))),.au] [1,5,10,11,12] [] hS hE ⟨PX.nm_int (by rw [IntWalk.i64_in _ (by omega)]; omega),trivial⟩ fun a w hS=>?_
    have e1:(IntKind.i64.wrap ((edgesK c t (k))+1))=edgesK c t (k+1):=by rw [edgesK_succ hy]; simp only [stepE,h9,h13,if_true,Bool.false_eq_true,if_false]
    rw [e1] at hS
    exact ⟨c.blocks.length-(k+1),by omega,k+1,rfl,by omega,trivial,(PX.cn [] _ _ 1 hS hE)⟩
  ·skip
   refine wp_skip ?_
   refine hK8 _ _ ?_
   refine PX.G0 [(.e 8 (.J 1))] [] 2 [] [] [.au,.au,.au] [1,5,7,8,10,11,12] [1] hS hE trivial fun a w hS=>?_
   show Code.rounds _ _ _ 2 _ _
   rw [rounds_succ]
   refine wp_seq_k fun K18 hK18=>?_
   refine PX.G [(.e 17 (.sc (.bool true)))] [] 2 [] [] [.au,.au] [1,5,7,8,10,11,12,17] [1] hS hE trivial fun a w hS=>?_
   refine PX.cond_s true hS (by kernel_rfl) (fun h19=>?_) (fun h19=>nomatch h19)
   refine wp_skip ?_
   refine hK18 _ _ ?_
   refine wp_seq_k fun K20 hK20=>?_
   refine wp_block ?_
   refine PX.G [(.e 27 (.sc (.bool (y.term.b1==t))))] [] 2 [] [] [.au,.au,.au,.au,.au,.au,.au,.au] [1,5,7,8,10,11,12,27] [1] hS hE trivial fun a w hS=>?_
   refine PX.cond_s (y.term.b1==t) hS (by kernel_rfl) (fun h21=>?_) (fun h21=>?_)
   ·skip
    refine PX.G0 [(.e 5 (.sc (.I (IntKind.i64.wrap ((edgesK c t (k))+1)))))] [] 2 [] [] [.au,.au,.au] [1,5,7,8,10,11,12] [1] hS hE trivial fun a w hS=>?_
    refine hK20 _ _ ?_
    refine PX.G0 [(.e 8 (.J 2))] [] 2 [] [] [.au,.au,.au] [1,5,7,8,10,11,12] [1] hS hE trivial fun a w hS=>?_
    show Code.rounds _ _ _ 1 _ _
    rw [rounds_succ]
    refine wp_seq_k fun K22 hK22=>?_
    refine PX.G [(.e 17 (.sc (.bool false)))] [] 2 [] [] [.au,.au] [1,5,7,8,10,11,12,17] [1] hS hE trivial fun a w hS=>?_
    refine PX.cond_s false hS (by kernel_rfl) (fun h23=>nomatch h23) (fun h23=>?_)
    refine wp_exit ?_
    refine hK5 _ _ ?_
    refine PX.G0 [(.e 12 (.sc (.I ((k+1:Nat):Int))))] [] 2 [.q ((.sc (.I (IntKind.i64.wrap ((k:Int)+1))):PX.PV)=(.sc (.I ((k+1:Nat):Int))))] [] [.nm (.sc (.I ((k+1:Nat):Int))),.au] [1,5,10,11,12] [] hS hE ⟨PX.nm_int (by rw [IntWalk.i64_in _ (by omega)]; omega),trivial⟩ fun a w hS=>?_
    have e1:(IntKind.i64.wrap ((edgesK c t (k))+1))=edgesK c t (k+1):=by rw [edgesK_succ hy]; simp only [stepE,h9,h21,if_true,Bool.false_eq_true,if_false]
    rw [e1] at hS
    exact ⟨c.blocks.length-(k+1),by omega,k+1,rfl,by omega,trivial,(PX.cn [] _ _ 1 hS hE)⟩
   ·skip
    refine wp_skip ?_
    refine hK20 _ _ ?_
    refine PX.G0 [(.e 8 (.J 2))] [] 2 [] [] [.au,.au,.au] [1,5,7,8,10,11,12] [1] hS hE trivial fun a w hS=>?_
    show Code.rounds _ _ _ 1 _ _
    rw [rounds_succ]
    refine wp_seq_k fun K24 hK24=>?_
    refine PX.G [(.e 17 (.sc (.bool false)))] [] 2 [] [] [.au,.au] [1,5,7,8,10,11,12,17] [1] hS hE trivial fun a w hS=>?_
    refine PX.cond_s false hS (by kernel_rfl) (fun h25=>nomatch h25) (fun h25=>?_)
    refine wp_exit ?_
    refine hK5 _ _ ?_
    refine PX.G0 [(.e 12 (.sc (.I ((k+1:Nat):Int))))] [] 2 [.q ((.sc (.I (IntKind.i64.wrap ((k:Int)+1))):PX.PV)=(.sc (.I ((k+1:Nat):Int))))] [] [.nm (.sc (.I ((k+1:Nat):Int))),.au] [1,5,10,11,12] [] hS hE ⟨PX.nm_int (by rw [IntWalk.i64_in _ (by omega)]; omega),trivial⟩ fun a w hS=>?_
    have e1:(edgesK c t (k))=edgesK c t (k+1):=by rw [edgesK_succ hy]; simp only [stepE,h9,h21,if_true,Bool.false_eq_true,if_false]
    replace hS:=PX.sl [1,5,10,11,12] (PX.reslot (t:=5) (.sc (.I (edgesK c t (k+1)))) hS rfl (fun _ _ _ _ h=>(show PX.PV.sc (.I (edgesK c t (k)))=.sc (.I (edgesK c t (k+1))) from by rw [e1]) ▸ h))
    exact ⟨c.blocks.length-(k+1),by omega,k+1,rfl,by omega,trivial,(PX.cn [] _ _ 1 hS hE)⟩
 ·skip
  refine wp_exit ?_
  refine hK1 _ _ ?_
  refine PX.G [(.e 4 (.sc (.I (edgesK c t (k)))))] [] 1 [] [] [.au,.au] [4] [] hS hE trivial fun a w hS=>?_
  refine wp_ret ?_
  rw [show (.sc (.I (edgesK c t c.blocks.length)))=((.sc (.I (edgesK c t (k)))):PX.PV) from by rw [show c.blocks.length=k from by have:=le_of_dec h4; omega]]
  exact PX.rt hS hE (.inl rfl)

set_option maxHeartbeats 400000 in
theorem con_f86 (b:BlockD) (hb:0≤b.params∧b.params≤999) (hl:b.ops.length≤1000000):PX.Con Try.prog 86 [(.agg (encB b))] [] 1 100000 (.imm 1 ((R.values b).map encI)) []:=by
 refine PX.con_intro [(.agg (encB b))] 34 Try.func86 rfl rfl (by kernel_rfl) (by kernel_rfl) ?_
 intro E a hE hS
 generalize E.w0=w at hS ⊢
 have mix:=mixed
 refine PX.G [(.e 1 (.ptr 1 0))] [(1,.box 62 (encB b))] 2 [] [] [.au,.au] [1] [1] hS hE trivial fun a w hS=>?_
 refine PX.G [(.e 3 (.sc (.slice none 0 0)))] [] 2 [] [] [.au] [1,3] [1] hS hE trivial fun a w hS=>?_
 refine wp_seq_k fun K1 hK1=>?_
 refine PX.G [(.e 4 (.J 0))] [] 2 [] [] [.au] [1,3,4] [1] hS hE trivial fun a w hS=>?_
 refine wp_block ?_
 replace hS:=PX.sl [1,3,4] (PX.reslot (t:=3) (.own 2 1 0) (PX.newrow 3 1 hS (hE.le (by decide))) rfl (PX.nil_own 2 1))
 refine wp_loop_ghost (fun m2 a' w'=>∃ k:Nat,m2=b.params.toNat-k∧k≤b.params.toNat∧True∧PX.Sat E 34 [(.e 1 (.ptr 1 0)),(.e 3 (.own 4 1 k)),(.e 4 (.sc (.I (k:Int))))] [(1,.box 62 (encB b)),(4,.row 3 1 true (((List.range (k)).map (fun i:Nat=>(i:Int))).map encI))] 5 a' w') (b.params.toNat-0) ⟨0,rfl,Nat.zero_le _,trivial,(PX.cn [(4,2)] _ _ 5 hS hE)⟩ ?_
 clear hS; rintro m2 a w ⟨k,hm2,hlek,hIk,hS⟩
 refine wp_seq_k fun K3 hK3=>?_
 refine PX.G [(.e 10 (.sc (.bool (decide ((k:Int)<b.params)))))] [] 5 [] [] [.au,.au,.au,.au] [1,3,4,10] [1,4] hS hE trivial fun a w hS=>?_
 refine PX.cond_s (decide ((k:Int)<b.params)) hS (by kernel_rfl) (fun h4=>?_) (fun h4=>?_)
 ·skip
  refine wp_skip ?_
  refine hK3 _ _ ?_
  refine wp_seq_k fun K5 hK5=>?_
  refine wp_block ?_
  refine PX.G0 [(.e 3 (.own 6 1 ((((List.range (k)).map (fun i:Nat=>(i:Int))).map encI:List (List PX.PV)).length+1)))] [(6,.row 3 1 true (((List.range (k)).map (fun i:Nat=>(i:Int))).map encI++[[(.sc (.I (k:Int)))]]))] 7 [.b (lenIs k (((List.range (k)).map (fun i:Nat=>(i:Int))).map encI)),.b (lenIs 1 ([[(.sc (.I (k:Int)))]])),.b (Nat.ble ((((List.range (k)).map (fun i:Nat=>(i:Int))).map encI:List (List PX.PV)).length+1) 1000000000)] [] [.au,.au,.au,.au,.au] [1,3,4] [1,6] hS hE ⟨by simp [PX.lenIs],rfl,by simp; omega,trivial⟩ fun a w hS=>?_
  refine hK5 _ _ ?_
  refine PX.G0 [(.e 4 (.sc (.I ((k+1:Nat):Int))))] [] 7 [.q ((.sc (.I (IntKind.i64.wrap ((k:Int)+1))):PX.PV)=(.sc (.I ((k+1:Nat):Int))))] [] [.au,.nm (.sc (.I ((k+1:Nat):Int))),.au] [1,3,4] [1,6] hS hE ⟨PX.nm_int (by rw [IntWalk.i64_in _ (by omega)]; omega),trivial⟩ fun a w hS=>?_
  have hkb:(k:Int)<b.params:=by simpa using h4
  have e1:(((List.range (k)).map (fun i:Nat=>(i:Int))).map encI++[[(.sc (.I (k:Int)))]])=((List.range (k+1)).map (fun i:Nat=>(i:Int))).map encI:=by rw [List.range_succ]; simp [encI]
  have e2:(((List.range (k)).map (fun i:Nat=>(i:Int))).map encI:List (List PX.PV)).length+1=k+1:=by simp
  rw [e2,e1] at hS
  exact ⟨b.params.toNat-(k+1),by omega,k+1,rfl,by omega,trivial,(PX.cn [(4,6)] _ _ 5 hS hE)⟩
 ·skip
  refine wp_exit ?_
  refine hK1 _ _ ?_
  refine wp_seq_k fun K6 hK6=>?_
  refine PX.G [(.e 18 (.imm 11 (b.ops.map encO))),(.e 19 (.sc (.I (b.ops.length:Int)))),(.e 20 (.J 0))] [] 5 [.q ((.sc (.I (((b.ops.map encO).length:Nat):Int)):PX.PV)=(.sc (.I (b.ops.length:Int))))] [] [.au,.au,.nm (.sc (.I (b.ops.length:Int))),.au] [3,18,19,20] [4] hS hE ⟨PX.nm_len (by simp),trivial⟩ fun a w hS=>?_
  refine wp_block ?_
  have hkb:k=b.params.toNat:=by have:=h4; simp at this; omega
  have e1:((List.range (k)).map (fun i:Nat=>(i:Int))).map encI=(R.upto b.params++dsts (b.ops.take (0))).map encI:=by rw [hkb]; simp [dsts,R.upto]
  have e2:k=(R.upto b.params++dsts (b.ops.take (0))).length:=by rw [hkb]; simp [dsts,R.upto]
  rw [e1,e2] at hS
  refine wp_loop_ghost (fun m7 a' w'=>∃ k:Nat,m7=b.ops.length-k∧k≤b.ops.length∧True∧PX.Sat E 34 [(.e 3 (.own 4 1 ((R.upto b.params++dsts (b.ops.take (k))).length))),(.e 18 (.imm 11 (b.ops.map encO))),(.e 19 (.sc (.I (b.ops.length:Int)))),(.e 20 (.sc (.I (k:Int))))] [(4,.row 3 1 true ((R.upto b.params++dsts (b.ops.take (k))).map encI))] 5 a' w') (b.ops.length-0) ⟨0,rfl,Nat.zero_le _,trivial,(PX.cn [] _ _ 5 hS hE)⟩ ?_
  clear hS; rintro m7 a w ⟨k,hm7,hlek,hIk,hS⟩
  refine PX.G [(.e 21 (.sc (.bool (decide ((k:Int)<(b.ops.length:Int))))))] [] 5 [] [] [.au] [3,18,19,20,21] [4] hS hE trivial fun a w hS=>?_
  refine wp_seq_k fun K8 hK8=>?_
  refine PX.cond_s (decide ((k:Int)<(b.ops.length:Int))) hS (by kernel_rfl) (fun h9=>?_) (fun h9=>?_)
  ·skip
   refine wp_skip ?_
   refine hK8 _ _ ?_
   refine wp_seq_k fun K10 hK10=>?_
   refine wp_block ?_
   have hlty:k<b.ops.length:=by simpa using h9
   obtain ⟨y,hy⟩:=get_of_lt hlty
   refine PX.G [(.e 6 (.ptr 5 0))] [(5,.box 74 (encO y))] 6 [.q ((k:Int)=(k:Int)),.q ((b.ops.map encO)[k]?=some (encO y))] [] [.ix k (encO y),.au,.au,.au] [3,6,18,19,20] [4,5] hS hE ⟨rfl,PX.map_get hy,trivial⟩ fun a w hS=>?_
   refine PX.G [(.e 26 (.sc (.bool (R.defines y.kind))))] [] 6 [.q (PX.Con Try.prog 90 [(.J y.kind)] [] 6 6 (.sc (.bool (R.defines y.kind))) [])] [] [.au,.au,.cl [] (.sc (.bool (R.defines y.kind))) [] 6] [3,6,18,19,20,26] [4,5] hS hE ⟨PX.con_any (con_f90 y.kind),trivial⟩ fun a w hS=>?_
   refine PX.cond_s (R.defines y.kind) hS (by kernel_rfl) (fun h11=>?_) (fun h11=>?_)
   ·skip
    refine PX.G0 [(.e 3 (.own 7 1 (((R.upto b.params++dsts (b.ops.take (k))).map encI:List (List PX.PV)).length+1)))] [(7,.row 3 1 true ((R.upto b.params++dsts (b.ops.take (k))).map encI++[[(.J y.dst)]]))] 8 [.b (lenIs ((R.upto b.params++dsts (b.ops.take (k))).length) ((R.upto b.params++dsts (b.ops.take (k))).map encI)),.b (lenIs 1 ([[(.J y.dst)]])),.b (Nat.ble (((R.upto b.params++dsts (b.ops.take (k))).map encI:List (List PX.PV)).length+1) 1000000000)] [] [.au,.au,.au,.au,.au,.au] [3,18,19,20] [7] hS hE ⟨by simp [PX.lenIs],rfl,by have:=dsts_len (b.ops.take k); simp [upto_len2] at this ⊢; omega,trivial⟩ fun a w hS=>?_
    refine hK10 _ _ ?_
    refine PX.G0 [(.e 20 (.sc (.I ((k+1:Nat):Int))))] [] 8 [.q ((.sc (.I (IntKind.i64.wrap ((k:Int)+1))):PX.PV)=(.sc (.I ((k+1:Nat):Int))))] [] [.nm (.sc (.I ((k+1:Nat):Int))),.au] [3,18,19,20] [7] hS hE ⟨PX.nm_int (by rw [IntWalk.i64_in _ (by omega)]; omega),trivial⟩ fun a w hS=>?_
    have ed:=dsts_take hy
    rw [if_pos h11] at ed
    have e1:((R.upto b.params++dsts (b.ops.take (k))).map encI++[[(.J y.dst)]])=(R.upto b.params++dsts (b.ops.take (k+1))).map encI:=by rw [ed]; simp [encI]
    have e2:((R.upto b.params++dsts (b.ops.take (k))).map encI:List (List PX.PV)).length+1=(R.upto b.params++dsts (b.ops.take (k+1))).length:=by rw [ed]; simp; omega
    rw [e2,e1] at hS
    exact ⟨b.ops.length-(k+1),by omega,k+1,rfl,by omega,trivial,(PX.cn [(4,7)] _ _ 5 hS hE)⟩
   ·skip
    refine wp_skip ?_
    refine hK10 _ _ ?_
    refine PX.G0 [(.e 20 (.sc (.I ((k+1:Nat):Int))))] [] 6 [.q ((.sc (.I (IntKind.i64.wrap ((k:Int)+1))):PX.PV)=(.sc (.I ((k+1:Nat):Int))))] [] [.nm (.sc (.I ((k+1:Nat):Int))),.au] [3,18,19,20] [4] hS hE ⟨PX.nm_int (by rw [IntWalk.i64_in _ (by omega)]; omega),trivial⟩ fun a w hS=>?_
    have ed:=dsts_take hy
    rw [if_neg (by rw [h11]; simp)] at ed
    rw [show (R.upto b.params++dsts (b.ops.take (k)))=(R.upto b.params++dsts (b.ops.take (k+1))) from by rw [ed,List.append_nil]] at hS
    exact ⟨b.ops.length-(k+1),by omega,k+1,rfl,by omega,trivial,(PX.cn [] _ _ 5 hS hE)⟩
  ·skip
   refine wp_exit ?_
   refine hK6 _ _ ?_
   refine PX.G [(.e 2 (.own 4 1 ((R.upto b.params++dsts (b.ops.take (k))).length)))] [] 5 [] [] [.au,.au] [2] [4] hS hE trivial fun a w hS=>?_
   have hk:b.ops.length≤k:=by simpa using h9
   replace hS:=PX.fz 4 [(.e 2 (.imm 1 ((R.upto b.params++dsts (b.ops.take (k))).map encI)))] [] [2] [] [.b (PX.lenIs ((R.upto b.params++dsts (b.ops.take (k))).length) ((R.upto b.params++dsts (b.ops.take (k))).map encI))] hS ⟨(by simp [PX.lenIs]),trivial⟩
   refine wp_ret ?_
   rw [show (.imm 1 ((R.values b).map encI))=((.imm 1 ((R.upto b.params++dsts (b.ops.take (k))).map encI)):PX.PV) from by rw [values_eq2,List.take_of_length_le hk]]
   exact PX.rt hS hE (.inl rfl)

theorem values_len (b:BlockD) (hb:0≤b.params∧b.params≤999) (hl:b.ops.length≤1000000):(R.values b).length≤1000999:=by
 rw [values_eq2,List.length_append,upto_len2]; have:=dsts_len b.ops; omega

set_option maxHeartbeats 400000 in
theorem con_f137 (b:BlockD) (hb:0≤b.params∧b.params≤999) (hl:b.ops.length≤1000000):PX.Con Try.prog 137 [(.agg (encB b))] [] 1 100000 (.sc (.I (topD b))) []:=by
 refine PX.con_intro [(.agg (encB b))] 21 Try.func137 rfl rfl (by kernel_rfl) (by kernel_rfl) ?_
 intro E a hE hS
 generalize E.w0=w at hS ⊢
 have mix:=mixed; have hvl:=values_len b hb hl
 refine PX.G [(.e 1 (.ptr 1 0))] [(1,.box 62 (encB b))] 2 [] [] [.au,.au] [1] [1] hS hE trivial fun a w hS=>?_
 refine PX.G [(.e 3 (.sc (.I (topK b (0)))))] [] 2 [.q ((.sc (.I (IntKind.i64.wrap (b.params-1))):PX.PV)=(.sc (.I (topK b (0)))))] [] [.au,.au,.nm (.sc (.I (topK b (0)))),.au] [1,3] [1] hS hE ⟨PX.nm_int (show IntKind.i64.wrap (b.params-1)=b.params-1 from IntWalk.i64_in _ (by omega)),trivial⟩ fun a w hS=>?_
 refine wp_seq_k fun K1 hK1=>?_
 refine PX.G [(.e 10 (.imm 1 ((R.values b).map encI))),(.e 11 (.sc (.I (((R.values b).length:Nat):Int)))),(.e 12 (.J 0))] [] 2 [.q (PX.Con Try.prog 86 [(.agg (encB b))] [] 2 2 (.imm 1 ((R.values b).map encI)) []),.q ((.sc (.I ((((R.values b).map encI).length:Nat):Int)):PX.PV)=(.sc (.I (((R.values b).length:Nat):Int))))] [] [.au,.cl [] (.imm 1 ((R.values b).map encI)) [] 2,.nm (.sc (.I (((R.values b).length:Nat):Int))),.au] [3,10,11,12] [] hS hE ⟨PX.con_any (con_f86 b hb hl),PX.nm_len (by simp),trivial⟩ fun a w hS=>?_
 refine wp_block ?_
 refine wp_loop_ghost (fun m2 a' w'=>∃ k:Nat,m2=(R.values b).length-k∧k≤(R.values b).length∧True∧PX.Sat E 21 [(.e 3 (.sc (.I (topK b (k))))),(.e 10 (.imm 1 ((R.values b).map encI))),(.e 11 (.sc (.I (((R.values b).length:Nat):Int)))),(.e 12 (.sc (.I (k:Int))))] [] 1 a' w') ((R.values b).length-0) ⟨0,rfl,Nat.zero_le _,trivial,(PX.cn [] _ _ 1 hS hE)⟩ ?_
 clear hS; rintro m2 a w ⟨k,hm2,hlek,hIk,hS⟩
 refine PX.G [(.e 13 (.sc (.bool (decide ((k:Int)<(((R.values b).length:Nat):Int))))))] [] 1 [] [] [.au] [3,10,11,12,13] [] hS hE trivial fun a w hS=>?_
 refine wp_seq_k fun K3 hK3=>?_
 refine PX.cond_s (decide ((k:Int)<(((R.values b).length:Nat):Int))) hS (by kernel_rfl) (fun h4=>?_) (fun h4=>?_)
 ·skip
  refine wp_skip ?_
  refine hK3 _ _ ?_
  refine wp_seq_k fun K5 hK5=>?_
  refine wp_block ?_
  have hlty:k<(R.values b).length:=by simpa using h4
  obtain ⟨y,hy⟩:=get_of_lt hlty
  refine PX.G [(.e 5 (.J y))] [] 1 [.q ((k:Int)=(k:Int)),.q (((R.values b).map encI)[k]?=some (encI y))] [] [.ix k (encI y),.au,.au] [3,5,10,11,12] [] hS hE ⟨rfl,PX.map_get hy,trivial⟩ fun a w hS=>?_
  refine PX.G0 [(.e 3 (.sc (.I (if y > (topK b (k)) then y else (topK b (k))))))] [] 1 [] [] [.au,.au,.au,.au] [3,10,11,12] [] hS hE trivial fun a w hS=>?_
  refine hK5 _ _ ?_
  refine PX.G0 [(.e 12 (.sc (.I ((k+1:Nat):Int))))] [] 1 [.q ((.sc (.I (IntKind.i64.wrap ((k:Int)+1))):PX.PV)=(.sc (.I ((k+1:Nat):Int))))] [] [.nm (.sc (.I ((k+1:Nat):Int))),.au] [3,10,11,12] [] hS hE ⟨PX.nm_int (by rw [IntWalk.i64_in _ (by omega)]; omega),trivial⟩ fun a w hS=>?_
  have e1:(if y > (topK b (k)) then y else (topK b (k)))=topK b (k+1):=(topK_succ hy).symm
  rw [e1] at hS
  exact ⟨(R.values b).length-(k+1),by omega,k+1,rfl,by omega,trivial,(PX.cn [] _ _ 1 hS hE)⟩
 ·skip
  refine wp_exit ?_
  refine hK1 _ _ ?_
  refine PX.G [(.e 2 (.sc (.I (topK b (k)))))] [] 1 [] [] [.au,.au] [2] [] hS hE trivial fun a w hS=>?_
  refine wp_ret ?_
  rw [show (.sc (.I (topD b)))=((.sc (.I (topK b (k)))):PX.PV) from by rw [show topK b k=topD b from by unfold topK topD; rw [List.take_of_length_le (le_of_dec h4)]]]
  exact PX.rt hS hE (.inl rfl)
end Go.Proofs.Ytlkcidmmpeebeaa
