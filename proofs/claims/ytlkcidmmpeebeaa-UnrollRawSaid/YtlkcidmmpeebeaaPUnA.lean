/- Proved: debuggerref09.Name on plain data -/
import Derived.Test.YtlkcidmmpeebeaaPcE
import Derived.Test.YtlkcidmmpeebeaaPcD
import Derived.Test.YtlkcidmmpeebeaaPSmall
set_option linter.unusedVariables false
set_option linter.unusedSimpArgs false
namespace Go.Proofs.Ytlkcidmmpeebeaa
open Go.RowKit Go.PX
set_option maxRecDepth 100000
def enc1 (p:Int × Int):List PX.PV:=[.sc (.I p.1)]
def enc2 (p:Int × Int):List PX.PV:=[.sc (.I p.2)]
def nameOf (nm:List (Int × Int)) (v:Int):Int:=match nm.find? (fun p=>p.1==v) with | some p=>p.2 | none=>v
theorem name_at {nm:List (Int × Int)} {v:Int} {k:Nat} {y:Int × Int} (h:Upto nm (fun _ p=>!(p.1==v)) k) (hy:nm[k]?=some y) (hv:(y.1==v)=true):nameOf nm v=y.2:=by
 obtain ⟨h1,h2⟩:=List.getElem?_eq_some_iff.1 hy
 have e:nm.find? (fun p=>p.1==v)=some y:=by
  rw [List.find?_eq_some_iff_getElem]
  refine ⟨hv,k,h1,h2,fun j hj=>?_⟩
  have:=h j (nm[j]'(by omega)) hj (List.getElem?_eq_getElem (by omega))
  simpa using this
 unfold nameOf; rw [e]
theorem name_no {nm:List (Int × Int)} {v:Int} {k:Nat} (h:Upto nm (fun _ p=>!(p.1==v)) k) (hk:nm.length≤k):nameOf nm v=v:=by
 have e:nm.find? (fun p=>p.1==v)=none:=by
  rw [List.find?_eq_none]
  intro x hx
  obtain ⟨j,hj⟩:=List.getElem?_of_mem hx
  have:=h j x (by have:=(List.getElem?_eq_some_iff.1 hj).1; omega) hj
  simpa using this
 unfold nameOf; rw [e]
def renO_ (nm:List (Int × Int)) (o:OpD):OpD:={ o with dst:=if R.defines o.kind=true then nameOf nm o.dst else o.dst,a:=if R.usesA o.kind=true then nameOf nm o.a else o.a,b:=if R.usesB o.kind=true then nameOf nm o.b else o.b,sv:=if (o.sk==2)=true then nameOf nm o.sv else o.sv }
def renT_ (nm:List (Int × Int)) (t:TermD):TermD:={ t with a:=if (((t.kind==2)||(t.kind==4))||(t.kind==5))=true then nameOf nm t.a else t.a,args:=t.args.map (nameOf nm),args0:=t.args0.map (nameOf nm),args1:=t.args1.map (nameOf nm) }

set_option maxHeartbeats 400000 in
theorem con_f90 (k:Int):PX.Con Try.prog 90 [(.J k)] [] 1 100000 (.sc (.bool (R.defines k))) []:=by
 refine PX.con_intro [(.J k)] 9 Try.func90 rfl rfl (by kernel_rfl) (by kernel_rfl) ?_
 intro E a hE hS
 generalize E.w0=w at hS ⊢
 have mix:=mixed
 refine PX.G [] [] 1 [] [] [.au] [0] [] hS hE trivial fun a w hS=>?_
 refine PX.G [(.e 2 (.sc (.bool (decide (1≤k)&&decide (k≤15)))))] [] 1 [] [(2,decide (1≤k))] [.au,.au,.au,.au,.au,.pk,.au] [2] [] hS hE trivial fun a w hS=>?_
 refine wp_ret ?_
 try simp only [Exit.then,Exit.inBlock,Nat.reduceEqDiff,↓reduceIte]
 rw [show (.sc (.bool (R.defines k)))=((.sc (.bool (decide (1≤k)&&decide (k≤15)))):PX.PV) from by simp [R.defines]]
 exact PX.ret_s hS hE (by kernel_rfl) (by kernel_rfl) (by kernel_rfl) (.inl rfl)

theorem usesA_R (k:Int):usesAD k=R.usesA k:=by unfold usesAD R.usesA; rw [show (k==18)=decide (k=18) from rfl]
theorem usesB_R (k:Int):usesBD k=R.usesB k:=by unfold usesBD R.usesB; rw [show (k==16)=decide (k=16) from rfl]
theorem con_f88R {lo top:Nat} (k:Int):PX.Con Try.prog 88 [.sc (.I k)] [] lo top (.sc (.bool (R.usesA k))) []:=by rw [← usesA_R]; exact PX.con_any (con_f88 k)
theorem con_f89R {lo top:Nat} (k:Int):PX.Con Try.prog 89 [.sc (.I k)] [] lo top (.sc (.bool (R.usesB k))) []:=by rw [← usesB_R]; exact PX.con_any (con_f89 k)

set_option maxHeartbeats 400000 in
theorem con_f162 (nm:List (Int × Int)) (v:Int) (hn:nm.length≤1000000):PX.Con Try.prog 162 [(.agg [(.imm 1 (nm.map enc1)),(.imm 1 (nm.map enc2))]),(.J v)] [] 1 100000 (.sc (.I (nameOf nm v))) []:=by
 refine PX.con_intro [(.agg [(.imm 1 (nm.map enc1)),(.imm 1 (nm.map enc2))]),(.J v)] 25 Try.func162 rfl rfl (by kernel_rfl) (by kernel_rfl) ?_
 intro E a hE hS
 generalize E.w0=w at hS ⊢
 have mix:=mixed
 refine PX.G [(.e 2 (.ptr 1 0))] [(1,.box 193 [(.imm 1 (nm.map enc1)),(.imm 1 (nm.map enc2))])] 2 [] [] [.au,.au] [1,2] [1] hS hE trivial fun a w hS=>?_
 refine wp_seq_k fun K1 hK1=>?_
 refine PX.G [(.e 8 (.imm 1 (nm.map enc1))),(.e 9 (.sc (.I (nm.length:Int)))),(.e 10 (.J 0))] [] 2 [.q ((.sc (.I (((nm.map enc1).length:Nat):Int)):PX.PV)=(.sc (.I (nm.length:Int))))] [] [.au,.au,.nm (.sc (.I (nm.length:Int))),.au] [1,2,8,9,10] [1] hS hE ⟨PX.nm_len (by simp),trivial⟩ fun a w hS=>?_
 refine wp_block ?_
 refine wp_loop_ghost (fun m2 a' w'=>∃ k:Nat,m2=nm.length-k∧k≤nm.length∧Upto nm (fun _ p=>!(p.1==v)) (k)∧PX.Sat E 25 [(.e 1 (.J v)),(.e 2 (.ptr 1 0)),(.e 8 (.imm 1 (nm.map enc1))),(.e 9 (.sc (.I (nm.length:Int)))),(.e 10 (.sc (.I (k:Int))))] [(1,.box 193 [(.imm 1 (nm.map enc1)),(.imm 1 (nm.map enc2))])] 2 a' w') (nm.length-0) ⟨0,rfl,Nat.zero_le _,Upto.zero,(PX.canon [] _ _ 2 hS hE (by kernel_rfl) (by kernel_rfl) (by kernel_rfl))⟩ ?_
 clear hS; rintro m2 a w ⟨k,hm2,hlek,hIk,hS⟩
 refine PX.G [(.e 11 (.sc (.bool (decide ((k:Int)<(nm.length:Int))))))] [] 2 [] [] [.au] [1,2,8,9,10,11] [1] hS hE trivial fun a w hS=>?_
 refine wp_seq_k fun K3 hK3=>?_
 refine PX.cond_s (decide ((k:Int)<(nm.length:Int))) hS (by kernel_rfl) (fun h4=>?_) (fun h4=>?_)
 ·skip
  refine wp_skip ?_
  refine hK3 _ _ ?_
  refine wp_seq_k fun K5 hK5=>?_
  refine wp_block ?_
  have hlty:k<nm.length:=by simpa using h4
  obtain ⟨y,hy⟩:=get_of_lt hlty
  refine PX.G [(.e 5 (.sc (.I (k:Int)))),(.e 6 (.J y.1))] [] 2 [.q ((k:Int)=(k:Int)),.q ((nm.map enc1)[k]?=some (enc1 y))] [] [.au,.ix k (enc1 y),.au,.au,.au] [1,2,5,6,8,9,10] [1] hS hE ⟨rfl,PX.map_get hy,trivial⟩ fun a w hS=>?_
  refine PX.G [(.e 17 (.sc (.bool (y.1==v))))] [] 2 [] [] [.au,.au,.au] [1,2,5,8,9,10,17] [1] hS hE trivial fun a w hS=>?_
  refine PX.cond_s (y.1==v) hS (by kernel_rfl) (fun h6=>?_) (fun h6=>?_)
  ·skip
   refine PX.G [(.e 4 (.J y.2))] [] 2 [.q ((k:Int)=(k:Int)),.q ((nm.map enc2)[k]?=some (enc2 y))] [] [.au,.au,.au,.ix k (enc2 y),.au,.au] [1,2,4,8,9,10] [1] hS hE ⟨rfl,PX.map_get hy,trivial⟩ fun a w hS=>?_
   refine wp_ret ?_
   try simp only [Exit.then,Exit.inBlock,Nat.reduceEqDiff,↓reduceIte]
   rw [show (.sc (.I (nameOf nm v)))=((.J y.2):PX.PV) from by rw [name_at hIk hy h6]]
   exact PX.ret_s hS hE (by kernel_rfl) (by kernel_rfl) (by kernel_rfl) (.inl rfl)
  ·skip
   refine wp_skip ?_
   refine hK5 _ _ ?_
   refine PX.G0 [(.e 10 (.sc (.I ((k+1:Nat):Int))))] [] 2 [.q ((.sc (.I (IntKind.i64.wrap ((k:Int)+1))):PX.PV)=(.sc (.I ((k+1:Nat):Int))))] [] [.nm (.sc (.I ((k+1:Nat):Int))),.au] [1,2,8,9,10] [1] hS hE ⟨PX.nm_int (by rw [IntWalk.i64_in _ (by omega)]; omega),trivial⟩ fun a w hS=>?_
   exact ⟨nm.length-(k+1),by omega,k+1,rfl,by omega,hIk.step hy (by rw [h6]; rfl),(PX.canon [] _ _ 2 hS hE (by kernel_rfl) (by kernel_rfl) (by kernel_rfl))⟩
 ·skip
  refine wp_exit ?_
  refine hK1 _ _ ?_
  refine PX.G [(.e 4 (.J v))] [] 2 [] [] [.au,.au] [4] [] hS hE trivial fun a w hS=>?_
  refine wp_ret ?_
  try simp only [Exit.then,Exit.inBlock,Nat.reduceEqDiff,↓reduceIte]
  rw [show (.sc (.I (nameOf nm v)))=((.J v):PX.PV) from by rw [name_no hIk (le_of_dec h4)]]
  exact PX.ret_s hS hE (by kernel_rfl) (by kernel_rfl) (by kernel_rfl) (.inl rfl)

set_option maxHeartbeats 400000 in
theorem con_f163 (nm:List (Int × Int)) (l:List Int) (hn:nm.length≤1000000) (hl:l.length≤1000000):PX.Con Try.prog 163 [(.agg [(.imm 1 (nm.map enc1)),(.imm 1 (nm.map enc2))]),(.imm 1 (l.map encI))] [] 1 100000 (.imm 1 ((l.map (nameOf nm)).map encI)) []:=by
 refine PX.con_intro [(.agg [(.imm 1 (nm.map enc1)),(.imm 1 (nm.map enc2))]),(.imm 1 (l.map encI))] 22 Try.func163 rfl rfl (by kernel_rfl) (by kernel_rfl) ?_
 intro E a hE hS
 generalize E.w0=w at hS ⊢
 have mix:=mixed
 refine PX.G [(.e 2 (.ptr 1 0))] [(1,.box 193 [(.imm 1 (nm.map enc1)),(.imm 1 (nm.map enc2))])] 2 [] [] [.au,.au] [1,2] [1] hS hE trivial fun a w hS=>?_
 refine PX.G [(.e 5 (.sc (.slice none 0 0)))] [] 2 [] [] [.au] [1,2,5] [1] hS hE trivial fun a w hS=>?_
 refine wp_seq_k fun K1 hK1=>?_
 refine PX.G [(.e 8 (.imm 1 (l.map encI))),(.e 9 (.sc (.I (l.length:Int)))),(.e 10 (.J 0))] [] 2 [.q ((.sc (.I (((l.map encI).length:Nat):Int)):PX.PV)=(.sc (.I (l.length:Int))))] [] [.au,.nm (.sc (.I (l.length:Int))),.au] [2,5,8,9,10] [1] hS hE ⟨PX.nm_len (by simp),trivial⟩ fun a w hS=>?_
 refine wp_block ?_
 replace hS:=PX.sl [2,5,8,9,10] (PX.reslot (t:=5) (.own 2 1 0) (PX.newrow 3 1 hS (hE.le (by decide))) rfl (PX.nil_own 2 1))
 refine wp_loop_ghost (fun m2 a' w'=>∃ k:Nat,m2=l.length-k∧k≤l.length∧True∧PX.Sat E 22 [(.e 2 (.ptr 1 0)),(.e 5 (.own 3 1 k)),(.e 8 (.imm 1 (l.map encI))),(.e 9 (.sc (.I (l.length:Int)))),(.e 10 (.sc (.I (k:Int))))] [(1,.box 193 [(.imm 1 (nm.map enc1)),(.imm 1 (nm.map enc2))]),(3,.row 3 1 true (((l.take (k)).map (nameOf nm)).map encI))] 4 a' w') (l.length-0) ⟨0,rfl,Nat.zero_le _,trivial,(PX.canon [(3,2)] _ _ 4 hS hE (by kernel_rfl) (by kernel_rfl) (by kernel_rfl))⟩ ?_
 clear hS; rintro m2 a w ⟨k,hm2,hlek,hIk,hS⟩
 refine PX.G [(.e 11 (.sc (.bool (decide ((k:Int)<(l.length:Int))))))] [] 4 [] [] [.au] [2,5,8,9,10,11] [1,3] hS hE trivial fun a w hS=>?_
 refine wp_seq_k fun K3 hK3=>?_
 refine PX.cond_s (decide ((k:Int)<(l.length:Int))) hS (by kernel_rfl) (fun h4=>?_) (fun h4=>?_)
 ·skip
  refine wp_skip ?_
  refine hK3 _ _ ?_
  refine wp_seq_k fun K5 hK5=>?_
  refine wp_block ?_
  have hlty:k<l.length:=by simpa using h4
  obtain ⟨y,hy⟩:=get_of_lt hlty
  refine PX.G [(.e 7 (.J y))] [] 4 [.q ((k:Int)=(k:Int)),.q ((l.map encI)[k]?=some (encI y))] [] [.ix k (encI y),.au,.au] [2,5,7,8,9,10] [1,3] hS hE ⟨rfl,PX.map_get hy,trivial⟩ fun a w hS=>?_
  refine PX.G0 [(.e 5 (.own 5 1 ((((l.take (k)).map (nameOf nm)).map encI:List (List PX.PV)).length+1)))] [(5,.row 3 1 true (((l.take (k)).map (nameOf nm)).map encI++[[(.sc (.I (nameOf nm y)))]]))] 6 [.q (PX.Con Try.prog 162 [(.agg [(.imm 1 (nm.map enc1)),(.imm 1 (nm.map enc2))]),(.J y)] [] 4 4 (.sc (.I (nameOf nm y))) []),.b (lenIs k (((l.take (k)).map (nameOf nm)).map encI)),.b (lenIs 1 ([[(.sc (.I (nameOf nm y)))]])),.b (Nat.ble ((((l.take (k)).map (nameOf nm)).map encI:List (List PX.PV)).length+1) 1000000000)] [] [.au,.au,.au,.cl [] (.sc (.I (nameOf nm y))) [] 4,.au,.au,.au] [2,5,8,9,10] [1,5] hS hE ⟨PX.con_any (con_f162 nm y hn),by simp [PX.lenIs]; omega,rfl,by simp; omega,trivial⟩ fun a w hS=>?_
  refine hK5 _ _ ?_
  refine PX.G0 [(.e 10 (.sc (.I ((k+1:Nat):Int))))] [] 6 [.q ((.sc (.I (IntKind.i64.wrap ((k:Int)+1))):PX.PV)=(.sc (.I ((k+1:Nat):Int))))] [] [.nm (.sc (.I ((k+1:Nat):Int))),.au] [2,5,8,9,10] [1,5] hS hE ⟨PX.nm_int (by rw [IntWalk.i64_in _ (by omega)]; omega),trivial⟩ fun a w hS=>?_
  have e2:(((l.take (k)).map (nameOf nm)).map encI:List (List PX.PV)).length+1=k+1:=by simp; omega
  have e1:(((l.take (k)).map (nameOf nm)).map encI++[[(.sc (.I (nameOf nm y)))]])=((l.take (k+1)).map (nameOf nm)).map encI:=by rw [List.take_add_one,hy]; simp [encI]
  rw [e2,e1] at hS
  exact ⟨l.length-(k+1),by omega,k+1,rfl,by omega,trivial,(PX.canon [(3,5)] _ _ 4 hS hE (by kernel_rfl) (by kernel_rfl) (by kernel_rfl))⟩
 ·skip
  refine wp_exit ?_
  refine hK1 _ _ ?_
  refine PX.G [(.e 4 (.own 3 1 k))] [] 4 [] [] [.au,.au] [4] [3] hS hE trivial fun a w hS=>?_
  have hk:l.length≤k:=by simpa using h4
  replace hS:=PX.fz 3 [(.e 4 (.imm 1 (((l.take (k)).map (nameOf nm)).map encI)))] [] [4] [] [.b (PX.lenIs k (((l.take (k)).map (nameOf nm)).map encI))] hS ⟨(by simp [PX.lenIs]; omega),trivial⟩
  refine wp_ret ?_
  try simp only [Exit.then,Exit.inBlock,Nat.reduceEqDiff,↓reduceIte]
  rw [show (.imm 1 ((l.map (nameOf nm)).map encI))=((.imm 1 (((l.take (k)).map (nameOf nm)).map encI)):PX.PV) from by rw [List.take_of_length_le hk]]
  exact PX.ret_s hS hE (by kernel_rfl) (by kernel_rfl) (by kernel_rfl) (.inl rfl)

set_option maxHeartbeats 400000 in
theorem con_f139 (nm:List (Int × Int)) (o:OpD) (hn:nm.length≤1000000):PX.Con Try.prog 139 [(.agg [(.imm 1 (nm.map enc1)),(.imm 1 (nm.map enc2))]),(.agg (encO o))] [] 1 100000 (.agg (encO (renO_ nm o))) []:=by
 refine PX.con_intro [(.agg [(.imm 1 (nm.map enc1)),(.imm 1 (nm.map enc2))]),(.agg (encO o))] 41 Try.func139 rfl rfl (by kernel_rfl) (by kernel_rfl) ?_
 intro E a hE hS
 generalize E.w0=w at hS ⊢
 have mix:=mixed
 refine PX.G [(.e 2 (.ptr 1 0)),(.e 3 (.ptr 2 0)),(.e 4 (.ptr 3 0))] [(1,.box 193 [(.imm 1 (nm.map enc1)),(.imm 1 (nm.map enc2))]),(2,.box 74 (encO o)),(3,.box 74 [(.J 0),(.J 0),(.J 0),(.J 0),(.J 0),(.J 0),(.J 0),(.J 0),(.J 0),(.J 0),(.J 0)])] 4 [] [] [.au,.au,.au] [2,3,4] [1,2,3] hS hE trivial fun a w hS=>?_
 refine PX.seq_cut (E:=E) (N:=41) (T:=[(.e 2 (.ptr 1 0)),(.e 3 (.ptr 2 0)),(.e 4 (.ptr 3 0))]) (H:=[(1,.box 193 [(.imm 1 (nm.map enc1)),(.imm 1 (nm.map enc2))]),(2,.box 74 [(.J o.kind),(.sc (.I (if R.defines o.kind=true then nameOf nm o.dst else o.dst))),(.J o.a),(.J o.b),(.J o.n),(.J o.ctx),(.J o.var),(.J o.piece),(.J o.sk),(.J o.sv),(.J o.sa)]),(3,.box 74 [(.J 0),(.J 0),(.J 0),(.J 0),(.J 0),(.J 0),(.J 0),(.J 0),(.J 0),(.J 0),(.J 0)])]) (nx:=4) ?_ ?_
 ·skip
  refine PX.G [(.e 7 (.sc (.bool (R.defines o.kind))))] [] 4 [.q (PX.Con Try.prog 90 [(.J o.kind)] [] 4 4 (.sc (.bool (R.defines o.kind))) [])] [] [.au,.au,.cl [] (.sc (.bool (R.defines o.kind))) [] 4] [2,3,4,7] [1,2,3] hS hE ⟨PX.con_any (con_f90 o.kind),trivial⟩ fun a w hS=>?_
  refine PX.cond_s (R.defines o.kind) hS (by kernel_rfl) (fun h1=>?_) (fun h1=>?_)
  ·skip
   refine PX.G0 [] [(2,.box 74 [(.J o.kind),(.sc (.I (nameOf nm o.dst))),(.J o.a),(.J o.b),(.J o.n),(.J o.ctx),(.J o.var),(.J o.piece),(.J o.sk),(.J o.sv),(.J o.sa)])] 4 [.q (PX.Con Try.prog 162 [(.agg [(.imm 1 (nm.map enc1)),(.imm 1 (nm.map enc2))]),(.J o.dst)] [] 4 4 (.sc (.I (nameOf nm o.dst))) [])] [] [.au,.au,.au,.cl [] (.sc (.I (nameOf nm o.dst))) [] 4,.au,.au] [2,3,4] [1,2,3] hS hE ⟨PX.con_any (con_f162 nm o.dst hn),trivial⟩ fun a w hS=>?_
   replace hS:=PX.recell (id:=2) (j:=1) (.sc (.I (if R.defines o.kind=true then nameOf nm o.dst else o.dst))) hS rfl rfl rfl (fun _ _ _ _ h=>(show PX.PV.sc (.I (nameOf nm o.dst))=.sc (.I (if R.defines o.kind=true then nameOf nm o.dst else o.dst)) from by rw [if_pos h1]) ▸ h)
   exact (PX.canon [] _ _ 4 hS hE (by kernel_rfl) (by kernel_rfl) (by kernel_rfl))
  ·skip
   refine wp_skip ?_
   replace hS:=PX.recell (id:=2) (j:=1) (.sc (.I (if R.defines o.kind=true then nameOf nm o.dst else o.dst))) hS rfl rfl rfl (fun _ _ _ _ h=>(show PX.PV.sc (.I o.dst)=.sc (.I (if R.defines o.kind=true then nameOf nm o.dst else o.dst)) from by rw [if_neg (by rw [h1]; simp)]) ▸ h)
   replace hS:=PX.sl [2,3,4] hS
   exact (PX.canon [] _ _ 4 hS hE (by kernel_rfl) (by kernel_rfl) (by kernel_rfl))
 clear hS; intro a w hS
 refine PX.seq_cut (E:=E) (N:=41) (T:=[(.e 2 (.ptr 1 0)),(.e 3 (.ptr 2 0)),(.e 4 (.ptr 3 0))]) (H:=[(1,.box 193 [(.imm 1 (nm.map enc1)),(.imm 1 (nm.map enc2))]),(2,.box 74 [(.J o.kind),(.sc (.I (if R.defines o.kind=true then nameOf nm o.dst else o.dst))),(.sc (.I (if R.usesA o.kind=true then nameOf nm o.a else o.a))),(.J o.b),(.J o.n),(.J o.ctx),(.J o.var),(.J o.piece),(.J o.sk),(.J o.sv),(.J o.sa)]),(3,.box 74 [(.J 0),(.J 0),(.J 0),(.J 0),(.J 0),(.J 0),(.J 0),(.J 0),(.J 0),(.J 0),(.J 0)])]) (nx:=4) ?_ ?_
 ·skip
  refine PX.G [(.e 15 (.sc (.bool (R.usesA o.kind))))] [] 4 [.q (PX.Con Try.prog 88 [(.J o.kind)] [] 4 4 (.sc (.bool (R.usesA o.kind))) [])] [] [.au,.au,.cl [] (.sc (.bool (R.usesA o.kind))) [] 4] [2,3,4,15] [1,2,3] hS hE ⟨con_f88R o.kind,trivial⟩ fun a w hS=>?_
  refine PX.cond_s (R.usesA o.kind) hS (by kernel_rfl) (fun h2=>?_) (fun h2=>?_)
  ·skip
   refine PX.G0 [] [(2,.box 74 [(.J o.kind),(.sc (.I (if R.defines o.kind=true then nameOf nm o.dst else o.dst))),(.sc (.I (nameOf nm o.a))),(.J o.b),(.J o.n),(.J o.ctx),(.J o.var),(.J o.piece),(.J o.sk),(.J o.sv),(.J o.sa)])] 4 [.q (PX.Con Try.prog 162 [(.agg [(.imm 1 (nm.map enc1)),(.imm 1 (nm.map enc2))]),(.J o.a)] [] 4 4 (.sc (.I (nameOf nm o.a))) [])] [] [.au,.au,.au,.cl [] (.sc (.I (nameOf nm o.a))) [] 4,.au,.au] [2,3,4] [1,2,3] hS hE ⟨PX.con_any (con_f162 nm o.a hn),trivial⟩ fun a w hS=>?_
   replace hS:=PX.recell (id:=2) (j:=2) (.sc (.I (if R.usesA o.kind=true then nameOf nm o.a else o.a))) hS rfl rfl rfl (fun _ _ _ _ h=>(show PX.PV.sc (.I (nameOf nm o.a))=.sc (.I (if R.usesA o.kind=true then nameOf nm o.a else o.a)) from by rw [if_pos h2]) ▸ h)
   exact (PX.canon [] _ _ 4 hS hE (by kernel_rfl) (by kernel_rfl) (by kernel_rfl))
  ·skip
   refine wp_skip ?_
   replace hS:=PX.recell (id:=2) (j:=2) (.sc (.I (if R.usesA o.kind=true then nameOf nm o.a else o.a))) hS rfl rfl rfl (fun _ _ _ _ h=>(show PX.PV.sc (.I o.a)=.sc (.I (if R.usesA o.kind=true then nameOf nm o.a else o.a)) from by rw [if_neg (by rw [h2]; simp)]) ▸ h)
   replace hS:=PX.sl [2,3,4] hS
   exact (PX.canon [] _ _ 4 hS hE (by kernel_rfl) (by kernel_rfl) (by kernel_rfl))
 clear hS; intro a w hS
 refine PX.seq_cut (E:=E) (N:=41) (T:=[(.e 2 (.ptr 1 0)),(.e 3 (.ptr 2 0)),(.e 4 (.ptr 3 0))]) (H:=[(1,.box 193 [(.imm 1 (nm.map enc1)),(.imm 1 (nm.map enc2))]),(2,.box 74 [(.J o.kind),(.sc (.I (if R.defines o.kind=true then nameOf nm o.dst else o.dst))),(.sc (.I (if R.usesA o.kind=true then nameOf nm o.a else o.a))),(.sc (.I (if R.usesB o.kind=true then nameOf nm o.b else o.b))),(.J o.n),(.J o.ctx),(.J o.var),(.J o.piece),(.J o.sk),(.J o.sv),(.J o.sa)]),(3,.box 74 [(.J 0),(.J 0),(.J 0),(.J 0),(.J 0),(.J 0),(.J 0),(.J 0),(.J 0),(.J 0),(.J 0)])]) (nx:=4) ?_ ?_
 ·skip
  refine PX.G [(.e 23 (.sc (.bool (R.usesB o.kind))))] [] 4 [.q (PX.Con Try.prog 89 [(.J o.kind)] [] 4 4 (.sc (.bool (R.usesB o.kind))) [])] [] [.au,.au,.cl [] (.sc (.bool (R.usesB o.kind))) [] 4] [2,3,4,23] [1,2,3] hS hE ⟨con_f89R o.kind,trivial⟩ fun a w hS=>?_
  refine PX.cond_s (R.usesB o.kind) hS (by kernel_rfl) (fun h3=>?_) (fun h3=>?_)
  ·skip
   refine PX.G0 [] [(2,.box 74 [(.J o.kind),(.sc (.I (if R.defines o.kind=true then nameOf nm o.dst else o.dst))),(.sc (.I (if R.usesA o.kind=true then nameOf nm o.a else o.a))),(.sc (.I (nameOf nm o.b))),(.J o.n),(.J o.ctx),(.J o.var),(.J o.piece),(.J o.sk),(.J o.sv),(.J o.sa)])] 4 [.q (PX.Con Try.prog 162 [(.agg [(.imm 1 (nm.map enc1)),(.imm 1 (nm.map enc2))]),(.J o.b)] [] 4 4 (.sc (.I (nameOf nm o.b))) [])] [] [.au,.au,.au,.cl [] (.sc (.I (nameOf nm o.b))) [] 4,.au,.au] [2,3,4] [1,2,3] hS hE ⟨PX.con_any (con_f162 nm o.b hn),trivial⟩ fun a w hS=>?_
   replace hS:=PX.recell (id:=2) (j:=3) (.sc (.I (if R.usesB o.kind=true then nameOf nm o.b else o.b))) hS rfl rfl rfl (fun _ _ _ _ h=>(show PX.PV.sc (.I (nameOf nm o.b))=.sc (.I (if R.usesB o.kind=true then nameOf nm o.b else o.b)) from by rw [if_pos h3]) ▸ h)
   exact (PX.canon [] _ _ 4 hS hE (by kernel_rfl) (by kernel_rfl) (by kernel_rfl))
  ·skip
   refine wp_skip ?_
   replace hS:=PX.recell (id:=2) (j:=3) (.sc (.I (if R.usesB o.kind=true then nameOf nm o.b else o.b))) hS rfl rfl rfl (fun _ _ _ _ h=>(show PX.PV.sc (.I o.b)=.sc (.I (if R.usesB o.kind=true then nameOf nm o.b else o.b)) from by rw [if_neg (by rw [h3]; simp)]) ▸ h)
   replace hS:=PX.sl [2,3,4] hS
   exact (PX.canon [] _ _ 4 hS hE (by kernel_rfl) (by kernel_rfl) (by kernel_rfl))
 clear hS; intro a w hS
 refine PX.seq_cut (E:=E) (N:=41) (T:=[(.e 3 (.ptr 2 0)),(.e 4 (.ptr 3 0))]) (H:=[(2,.box 74 [(.J o.kind),(.sc (.I (if R.defines o.kind=true then nameOf nm o.dst else o.dst))),(.sc (.I (if R.usesA o.kind=true then nameOf nm o.a else o.a))),(.sc (.I (if R.usesB o.kind=true then nameOf nm o.b else o.b))),(.J o.n),(.J o.ctx),(.J o.var),(.J o.piece),(.J o.sk),(.sc (.I (if (o.sk==2)=true then nameOf nm o.sv else o.sv))),(.J o.sa)]),(3,.box 74 [(.J 0),(.J 0),(.J 0),(.J 0),(.J 0),(.J 0),(.J 0),(.J 0),(.J 0),(.J 0),(.J 0)])]) (nx:=4) ?_ ?_
 ·skip
  refine PX.G [(.e 32 (.sc (.bool (o.sk==2))))] [] 4 [] [] [.au,.au,.au,.au] [2,3,4,32] [1,2,3] hS hE trivial fun a w hS=>?_
  refine PX.cond_s (o.sk==2) hS (by kernel_rfl) (fun h4=>?_) (fun h4=>?_)
  ·skip
   refine PX.G0 [] [(2,.box 74 [(.J o.kind),(.sc (.I (if R.defines o.kind=true then nameOf nm o.dst else o.dst))),(.sc (.I (if R.usesA o.kind=true then nameOf nm o.a else o.a))),(.sc (.I (if R.usesB o.kind=true then nameOf nm o.b else o.b))),(.J o.n),(.J o.ctx),(.J o.var),(.J o.piece),(.J o.sk),(.sc (.I (nameOf nm o.sv))),(.J o.sa)])] 4 [.q (PX.Con Try.prog 162 [(.agg [(.imm 1 (nm.map enc1)),(.imm 1 (nm.map enc2))]),(.J o.sv)] [] 4 4 (.sc (.I (nameOf nm o.sv))) [])] [] [.au,.au,.au,.au,.cl [] (.sc (.I (nameOf nm o.sv))) [] 4,.au,.au,.au] [3,4] [2,3] hS hE ⟨PX.con_any (con_f162 nm o.sv hn),trivial⟩ fun a w hS=>?_
   replace hS:=PX.recell (id:=2) (j:=9) (.sc (.I (if (o.sk==2)=true then nameOf nm o.sv else o.sv))) hS rfl rfl rfl (fun _ _ _ _ h=>(show PX.PV.sc (.I (nameOf nm o.sv))=.sc (.I (if (o.sk==2)=true then nameOf nm o.sv else o.sv)) from by rw [if_pos h4]) ▸ h)
   exact (PX.canon [] _ _ 4 hS hE (by kernel_rfl) (by kernel_rfl) (by kernel_rfl))
  ·skip
   refine wp_skip ?_
   replace hS:=PX.recell (id:=2) (j:=9) (.sc (.I (if (o.sk==2)=true then nameOf nm o.sv else o.sv))) hS rfl rfl rfl (fun _ _ _ _ h=>(show PX.PV.sc (.I o.sv)=.sc (.I (if (o.sk==2)=true then nameOf nm o.sv else o.sv)) from by rw [if_neg (by rw [h4]; simp)]) ▸ h)
   replace hS:=PX.sl [3,4] hS
   exact (PX.canon [] _ _ 4 hS hE (by kernel_rfl) (by kernel_rfl) (by kernel_rfl))
 clear hS; intro a w hS
 refine PX.G [] [(3,.box 74 [(.J o.kind),(.sc (.I (if R.defines o.kind=true then nameOf nm o.dst else o.dst))),(.sc (.I (if R.usesA o.kind=true then nameOf nm o.a else o.a))),(.sc (.I (if R.usesB o.kind=true then nameOf nm o.b else o.b))),(.J o.n),(.J o.ctx),(.J o.var),(.J o.piece),(.J o.sk),(.sc (.I (if (o.sk==2)=true then nameOf nm o.sv else o.sv))),(.J o.sa)])] 4 [] [] [.au,.au] [4] [3] hS hE trivial fun a w hS=>?_
 refine wp_ret ?_
 try simp only [Exit.then,Exit.inBlock,Nat.reduceEqDiff,↓reduceIte]
 exact PX.ret_s hS hE (by kernel_rfl) (by kernel_rfl) (by kernel_rfl) (.inl rfl)

set_option maxHeartbeats 400000 in
theorem con_f138 (nm:List (Int × Int)) (t:TermD) (hn:nm.length≤1000000) (h1:t.args.length≤1000000) (h2:t.args0.length≤1000000) (h3:t.args1.length≤1000000):PX.Con Try.prog 138 [(.agg [(.imm 1 (nm.map enc1)),(.imm 1 (nm.map enc2))]),(.agg [(.J t.kind),(.J t.a),(.J t.n),(.imm 1 (t.args.map encI)),(.J t.b0),(.imm 1 (t.args0.map encI)),(.J t.b1),(.imm 1 (t.args1.map encI))])] [] 1 100000 (.agg [.sc (.I (renT_ nm t).kind),.sc (.I (renT_ nm t).a),.sc (.I (renT_ nm t).n),.imm 1 ((renT_ nm t).args.map encI),.sc (.I (renT_ nm t).b0),.imm 1 ((renT_ nm t).args0.map encI),.sc (.I (renT_ nm t).b1),.imm 1 ((renT_ nm t).args1.map encI)]) []:=by
 refine PX.con_intro [(.agg [(.imm 1 (nm.map enc1)),(.imm 1 (nm.map enc2))]),(.agg [(.J t.kind),(.J t.a),(.J t.n),(.imm 1 (t.args.map encI)),(.J t.b0),(.imm 1 (t.args0.map encI)),(.J t.b1),(.imm 1 (t.args1.map encI))])] 45 Try.func138 rfl rfl (by kernel_rfl) (by kernel_rfl) ?_
 intro E a hE hS
 generalize E.w0=w at hS ⊢
 have mix:=mixed
 refine PX.G [(.e 2 (.ptr 1 0)),(.e 3 (.ptr 2 0)),(.e 4 (.ptr 3 0))] [(1,.box 193 [(.imm 1 (nm.map enc1)),(.imm 1 (nm.map enc2))]),(2,.box 60 [(.J t.kind),(.J t.a),(.J t.n),(.imm 1 (t.args.map encI)),(.J t.b0),(.imm 1 (t.args0.map encI)),(.J t.b1),(.imm 1 (t.args1.map encI))]),(3,.box 60 [(.J 0),(.J 0),(.J 0),(.sc (.slice none 0 0)),(.J 0),(.sc (.slice none 0 0)),(.J 0),(.sc (.slice none 0 0))])] 4 [] [] [.au,.au,.au] [2,3,4] [1,2,3] hS hE trivial fun a w hS=>?_
 refine PX.seq_cut (E:=E) (N:=45) (T:=[(.e 2 (.ptr 1 0)),(.e 3 (.ptr 2 0)),(.e 4 (.ptr 3 0))]) (H:=[(1,.box 193 [(.imm 1 (nm.map enc1)),(.imm 1 (nm.map enc2))]),(2,.box 60 [(.J t.kind),(.sc (.I (if (((t.kind==2)||(t.kind==4))||(t.kind==5))=true then nameOf nm t.a else t.a))),(.J t.n),(.imm 1 (t.args.map encI)),(.J t.b0),(.imm 1 (t.args0.map encI)),(.J t.b1),(.imm 1 (t.args1.map encI))]),(3,.box 60 [(.J 0),(.J 0),(.J 0),(.sc (.slice none 0 0)),(.J 0),(.sc (.slice none 0 0)),(.J 0),(.sc (.slice none 0 0))])]) (nx:=4) ?_ ?_
 ·skip
  refine PX.G [(.e 18 (.sc (.bool (((t.kind==2)||(t.kind==4))||(t.kind==5)))))] [] 4 [] [(3,(t.kind==2)),(8,((t.kind==2)||(t.kind==4)))] [.au,.au,.au,.au,.au,.au,.au,.pk,.au,.au,.au,.au,.pk] [2,3,4,18] [1,2,3] hS hE trivial fun a w hS=>?_
  refine PX.cond_s (((t.kind==2)||(t.kind==4))||(t.kind==5)) hS (by kernel_rfl) (fun h1=>?_) (fun h1=>?_)
  ·skip
   refine PX.G0 [] [(2,.box 60 [(.J t.kind),(.sc (.I (nameOf nm t.a))),(.J t.n),(.imm 1 (t.args.map encI)),(.J t.b0),(.imm 1 (t.args0.map encI)),(.J t.b1),(.imm 1 (t.args1.map encI))])] 4 [.q (PX.Con Try.prog 162 [(.agg [(.imm 1 (nm.map enc1)),(.imm 1 (nm.map enc2))]),(.J t.a)] [] 4 4 (.sc (.I (nameOf nm t.a))) [])] [] [.au,.au,.au,.cl [] (.sc (.I (nameOf nm t.a))) [] 4,.au,.au] [2,3,4] [1,2,3] hS hE ⟨PX.con_any (con_f162 nm t.a hn),trivial⟩ fun a w hS=>?_
   replace hS:=PX.recell (id:=2) (j:=1) (.sc (.I (if (((t.kind==2)||(t.kind==4))||(t.kind==5))=true then nameOf nm t.a else t.a))) hS rfl rfl rfl (fun _ _ _ _ h=>(show PX.PV.sc (.I (nameOf nm t.a))=.sc (.I (if (((t.kind==2)||(t.kind==4))||(t.kind==5))=true then nameOf nm t.a else t.a)) from by rw [if_pos h1]) ▸ h)
   exact (PX.canon [] _ _ 4 hS hE (by kernel_rfl) (by kernel_rfl) (by kernel_rfl))
  ·skip
   refine wp_skip ?_
   replace hS:=PX.recell (id:=2) (j:=1) (.sc (.I (if (((t.kind==2)||(t.kind==4))||(t.kind==5))=true then nameOf nm t.a else t.a))) hS rfl rfl rfl (fun _ _ _ _ h=>(show PX.PV.sc (.I t.a)=.sc (.I (if (((t.kind==2)||(t.kind==4))||(t.kind==5))=true then nameOf nm t.a else t.a)) from by rw [if_neg (by rw [h1]; simp)]) ▸ h)
   replace hS:=PX.sl [2,3,4] hS
   exact (PX.canon [] _ _ 4 hS hE (by kernel_rfl) (by kernel_rfl) (by kernel_rfl))
 clear hS; intro a w hS
 refine PX.G [] [(2,.box 60 [(.J t.kind),(.sc (.I (if (((t.kind==2)||(t.kind==4))||(t.kind==5))=true then nameOf nm t.a else t.a))),(.J t.n),(.imm 1 ((t.args.map (nameOf nm)).map encI)),(.J t.b0),(.imm 1 (t.args0.map encI)),(.J t.b1),(.imm 1 (t.args1.map encI))])] 4 [.q (PX.Con Try.prog 163 [(.agg [(.imm 1 (nm.map enc1)),(.imm 1 (nm.map enc2))]),(.imm 1 (t.args.map encI))] [] 4 4 (.imm 1 ((t.args.map (nameOf nm)).map encI)) [])] [] [.au,.au,.au,.cl [] (.imm 1 ((t.args.map (nameOf nm)).map encI)) [] 4,.au,.au] [2,3,4] [1,2,3] hS hE ⟨PX.con_any (con_f163 nm t.args hn (by assumption)),trivial⟩ fun a w hS=>?_
 refine wp_seq_k fun K2 hK2=>?_
 refine PX.G [(.e 5 (.J 0))] [] 4 [] [] [.au] [2,3,4,5] [1,2,3] hS hE trivial fun a w hS=>?_
 refine wp_block ?_
 refine wp_loop_rounds 3 ?_
 rw [rounds_succ]
 refine wp_seq_k fun K3 hK3=>?_
 refine PX.G [(.e 30 (.sc (.bool true)))] [] 4 [] [] [.au,.au] [2,3,4,5,30] [1,2,3] hS hE trivial fun a w hS=>?_
 refine PX.cond_s true hS (by kernel_rfl) (fun h4=>?_) (fun h4=>nomatch h4)
 refine wp_skip ?_
 refine hK3 _ _ ?_
 refine wp_seq_k fun K5 hK5=>?_
 refine wp_block ?_
 refine PX.D0 [] [(2,.box 60 [(.J t.kind),(.sc (.I (if (((t.kind==2)||(t.kind==4))||(t.kind==5))=true then nameOf nm t.a else t.a))),(.J t.n),(.imm 1 ((t.args.map (nameOf nm)).map encI)),(.J t.b0),(.imm 1 ((t.args0.map (nameOf nm)).map encI)),(.J t.b1),(.imm 1 (t.args1.map encI))])] 4 [.q (PX.Con Try.prog 163 [(.agg [(.imm 1 (nm.map enc1)),(.imm 1 (nm.map enc2))]),(.imm 1 (t.args0.map encI))] [] 4 4 (.imm 1 ((t.args0.map (nameOf nm)).map encI)) [])] [] [.au,.au,.au,.au,.au,.au,.au,.cl [] (.imm 1 ((t.args0.map (nameOf nm)).map encI)) [] 4,.au,.au,.au,.au] [2,3,4,5] [1,2,3] hS mixed hE ⟨PX.con_any (con_f163 nm t.args0 hn (by assumption)),trivial⟩ fun a w hS=>?_
 refine hK5 _ _ ?_
 refine PX.G0 [(.e 5 (.J 1))] [] 4 [] [] [.au,.au,.au] [2,3,4,5] [1,2,3] hS hE trivial fun a w hS=>?_
 show Code.rounds _ _ _ 2 _ _
 rw [rounds_succ]
 refine wp_seq_k fun K6 hK6=>?_
 refine PX.G [(.e 30 (.sc (.bool true)))] [] 4 [] [] [.au,.au] [2,3,4,5,30] [1,2,3] hS hE trivial fun a w hS=>?_
 refine PX.cond_s true hS (by kernel_rfl) (fun h7=>?_) (fun h7=>nomatch h7)
 refine wp_skip ?_
 refine hK6 _ _ ?_
 refine wp_seq_k fun K8 hK8=>?_
 refine wp_block ?_
 refine PX.D0 [] [(2,.box 60 [(.J t.kind),(.sc (.I (if (((t.kind==2)||(t.kind==4))||(t.kind==5))=true then nameOf nm t.a else t.a))),(.J t.n),(.imm 1 ((t.args.map (nameOf nm)).map encI)),(.J t.b0),(.imm 1 ((t.args0.map (nameOf nm)).map encI)),(.J t.b1),(.imm 1 ((t.args1.map (nameOf nm)).map encI))])] 4 [.q (PX.Con Try.prog 163 [(.agg [(.imm 1 (nm.map enc1)),(.imm 1 (nm.map enc2))]),(.imm 1 (t.args1.map encI))] [] 4 4 (.imm 1 ((t.args1.map (nameOf nm)).map encI)) [])] [] [.au,.au,.au,.au,.au,.au,.au,.cl [] (.imm 1 ((t.args1.map (nameOf nm)).map encI)) [] 4,.au,.au,.au,.au] [2,3,4,5] [1,2,3] hS mixed hE ⟨PX.con_any (con_f163 nm t.args1 hn (by assumption)),trivial⟩ fun a w hS=>?_
 refine hK8 _ _ ?_
 refine PX.G0 [(.e 5 (.J 2))] [] 4 [] [] [.au,.au,.au] [2,3,4,5] [1,2,3] hS hE trivial fun a w hS=>?_
 show Code.rounds _ _ _ 1 _ _
 rw [rounds_succ]
 refine wp_seq_k fun K9 hK9=>?_
 refine PX.G [(.e 30 (.sc (.bool false)))] [] 4 [] [] [.au,.au] [2,3,4,5,30] [1,2,3] hS hE trivial fun a w hS=>?_
 refine PX.cond_s false hS (by kernel_rfl) (fun h10=>nomatch h10) (fun h10=>?_)
 refine wp_exit ?_
 refine hK2 _ _ ?_
 refine PX.G [] [(3,.box 60 [(.J t.kind),(.sc (.I (if (((t.kind==2)||(t.kind==4))||(t.kind==5))=true then nameOf nm t.a else t.a))),(.J t.n),(.imm 1 ((t.args.map (nameOf nm)).map encI)),(.J t.b0),(.imm 1 ((t.args0.map (nameOf nm)).map encI)),(.J t.b1),(.imm 1 ((t.args1.map (nameOf nm)).map encI))])] 4 [] [] [.au,.au] [4] [3] hS hE trivial fun a w hS=>?_
 refine wp_ret ?_
 try simp only [Exit.then,Exit.inBlock,Nat.reduceEqDiff,↓reduceIte]
 exact PX.ret_s hS hE (by kernel_rfl) (by kernel_rfl) (by kernel_rfl) (.inl rfl)
end Go.Proofs.Ytlkcidmmpeebeaa
