/- Proved: alloc: a free place -/
import Derived.Test.YtlkcidmmpeebeaaPAlB
set_option linter.unusedVariables false
set_option linter.unusedSimpArgs false
namespace Go.Proofs.Ytlkcidmmpeebeaa
open Go.RowKit Go.PX
set_option maxRecDepth 100000
abbrev PlaceD:=Int × Int × Int
/-- the first register that is free at k,counted from 0 for the register 1 -/
def firstR (regs:List Int) (k:Int):Option Nat:=(List.range 12).find? fun i=>decide ((regs[i+1]?).getD 0≤k)
def firstS (spills:List Int) (k:Int):Option Nat:=(List.range spills.length).find? fun i=>decide ((spills[i]?).getD 0≤k)
def freeD (regs spills:List Int) (first k:Int):PlaceD × List Int :=
 match firstR regs k with
 | some r=>((2,((r+1:Nat):Int),0),spills)
 | none=>match firstS spills k with
  | some s=>((3,first+(s:Int),0),spills)
  | none=>((3,first+(spills.length:Int),0),spills++[-1])

set_option maxHeartbeats 1000000 in
theorem con_f106 (regs spills:List Int) (first k:Int) (hr:regs.length=13) (hn:spills.length≤1000000) (hf1:0≤first∧first≤1000000):PX.Con Try.prog 106 [(.J k),(.ptr 1 0),(.ptr 2 0),(.ptr 4 0)] [(1,.box 152 (PX.cells13 regs)),(2,.box 35 [(.own 3 1 spills.length)]),(3,.row 3 1 true (spills.map encI)),(4,.box 3 [(.J first)])] 5 100000 (.agg [(.sc (.I ((freeD regs spills first k).1.1))),(.sc (.I ((freeD regs spills first k).1.2.1))),(.sc (.I ((freeD regs spills first k).1.2.2)))]) [(1,some (.box 152 (PX.cells13 regs))),(2,some (.box 35 [(.own 5 1 ((freeD regs spills first k).2.length))])),(3,none),(4,some (.box 3 [(.J first)])),(5,some (.row 3 1 true ((freeD regs spills first k).2.map encI)))]:=by
 refine PX.con_intro [(.J k),(.ptr 1 0),(.ptr 2 0),(.ptr 4 0)] 44 Try.func106 rfl rfl (by kernel_rfl) (by kernel_rfl) ?_
 intro E a hE hS
 generalize E.w0=w at hS ⊢
 have mix:=mixed
 refine PX.G [(.e 5 (.ptr 5 0))] [(5,.box 78 [(.J 0),(.J 0),(.J 0)])] 6 [] [] [.au] [0,1,2,3,5] [1,2,3,4,5] hS hE trivial fun a w hS=>?_
 refine wp_seq_k fun K1 hK1=>?_
 refine PX.G [(.e 6 (.J 1))] [] 6 [] [] [.au] [0,1,2,3,5,6] [1,2,3,4,5] hS hE trivial fun a w hS=>?_
 refine wp_block ?_
 refine wp_loop_ghost (fun m2 a' w'=>∃ j:Nat,m2=12-j∧j≤12∧(∀ i,i<j→decide ((regs[i+1]?).getD 0≤k)=false)∧PX.Sat E 44 [(.e 0 (.J k)),(.e 1 (.ptr 1 0)),(.e 2 (.ptr 2 0)),(.e 3 (.ptr 4 0)),(.e 5 (.ptr 5 0)),(.e 6 (.sc (.I ((j+1:Nat):Int))))] [(1,.box 152 (PX.cells13 regs)),(2,.box 35 [(.own 3 1 spills.length)]),(3,.row 3 1 true (spills.map encI)),(4,.box 3 [(.J first)]),(5,.box 78 [(.J 0),(.J 0),(.J 0)])] 6 a' w') (12-0) ⟨0,rfl,Nat.zero_le _,(fun i hi=>by omega),(PX.canon [] _ _ 6 hS hE (by kernel_rfl) (by kernel_rfl) (by kernel_rfl))⟩ ?_
 clear hS; rintro m2 a w ⟨j,hm2,hlej,hIj,hS⟩
 refine wp_seq_k fun K3 hK3=>?_
 refine PX.G [(.e 10 (.sc (.bool (decide (((j+1:Nat):Int)≤12)))))] [] 6 [] [] [.au,.au] [0,1,2,3,5,6,10] [1,2,3,4,5] hS hE trivial fun a w hS=>?_
 refine PX.cond_s (decide (((j+1:Nat):Int)≤12)) hS (by kernel_rfl) (fun h4=>?_) (fun h4=>?_)
 ·skip
  refine wp_skip ?_
  refine hK3 _ _ ?_
  refine wp_seq_k fun K5 hK5=>?_
  refine wp_block ?_
  have hj12:j<12:=by have:=of_decide_eq_true h4; omega
  obtain ⟨z,hz⟩:=get_of_lt (show j+1<regs.length by omega)
  refine PX.G [(.e 17 (.sc (.bool (decide (z≤k)))))] [] 6 [.q (((j+1:Nat):Int)=((j+1:Nat):Int)),.q (j+1<13),.q (((PX.cells13 regs).drop (0+(j+1)*1)).take ([PX.c1 z]:List PX.PV).length=[PX.c1 z])] [] [.au,.ix (j+1) [],.lr ([PX.c1 z]),.au,.au] [0,1,2,3,5,6,17] [1,2,3,4,5] hS hE ⟨rfl,by omega,PX.cells13_get hr hz,trivial⟩ fun a w hS=>?_
  refine PX.cond_s (decide (z≤k)) hS (by kernel_rfl) (fun h6=>?_) (fun h6=>?_)
  ·skip
   refine PX.G [] [(5,.box 78 [(.J 2),(.sc (.I ((j+1:Nat):Int))),(.J 0)])] 6 [] [] [.au,.au,.au] [0,1,2,3,5,6] [1,2,3,4,5] hS hE trivial fun a w hS=>?_
   refine wp_ret ?_
   try simp only [Exit.then,Exit.inBlock,Nat.reduceEqDiff,↓reduceIte]
   have hf:freeD regs spills first k=((2,((j+1:Nat):Int),0),spills):=by unfold freeD; rw [show firstR regs k=some j from find_range hj12 hIj (by rw [hz]; exact h6)]
   rw [hf] at hE ⊢
   replace hS:=PX.sl [5] hS
   replace hS:=PX.canon [(5,3),(6,5)] [(.e 5 (.ptr 6 0))] [(1,.box 152 (PX.cells13 regs)),(2,.box 35 [(.own 5 1 spills.length)]),(4,.box 3 [(.J first)]),(5,.row 3 1 true (spills.map encI)),(6,.box 78 [(.J 2),(.sc (.I ((j+1:Nat):Int))),(.J 0)])] 7 hS hE (by kernel_rfl) (by kernel_rfl) (by kernel_rfl)
   exact PX.ret_s hS hE (by kernel_rfl) (by kernel_rfl) (by kernel_rfl) (.inl rfl)
  ·skip
   refine wp_skip ?_
   refine hK5 _ _ ?_
   refine PX.G0 [(.e 6 (.sc (.I ((j+1+1:Nat):Int))))] [] 6 [.q ((.sc (.I (IntKind.i64.wrap (((j+1:Nat):Int)+1))):PX.PV)=(.sc (.I ((j+1+1:Nat):Int))))] [] [.au,.nm (.sc (.I ((j+1+1:Nat):Int))),.au] [0,1,2,3,5,6] [1,2,3,4,5] hS hE ⟨PX.nm_int (by rw [IntWalk.i64_in _ (by omega)]; omega),trivial⟩ fun a w hS=>?_
   exact ⟨12-(j+1),by omega,j+1,rfl,by omega,(fun i hi=>if q:i<j then hIj i q else by obtain rfl:i=j:=(by omega); rw [hz]; exact h6),(PX.canon [] _ _ 6 hS hE (by kernel_rfl) (by kernel_rfl) (by kernel_rfl))⟩
 ·skip
  refine wp_exit ?_
  refine hK1 _ _ ?_
  refine wp_seq_k fun K7 hK7=>?_
  have hR0:firstR regs k=none:=find_range_none (fun i hi=>hIj i (by have:=of_decide_eq_false h4; omega))
  refine PX.G [(.e 20 (.own 3 1 spills.length)),(.e 21 (.sc (.I (spills.length:Int)))),(.e 22 (.J 0))] [] 6 [] [] [.au,.au,.au] [0,2,3,5,20,21,22] [1,2,3,4,5] hS hE trivial fun a w hS=>?_
  refine wp_block ?_
  refine wp_loop_ghost (fun m8 a' w'=>∃ q:Nat,m8=spills.length-q∧q≤spills.length∧(∀ i,i<q→decide ((spills[i]?).getD 0≤k)=false)∧PX.Sat E 44 [(.e 0 (.J k)),(.e 2 (.ptr 2 0)),(.e 3 (.ptr 4 0)),(.e 5 (.ptr 5 0)),(.e 20 (.own 3 1 spills.length)),(.e 21 (.sc (.I (spills.length:Int)))),(.e 22 (.sc (.I (q:Int))))] [(1,.box 152 (PX.cells13 regs)),(2,.box 35 [(.own 3 1 spills.length)]),(3,.row 3 1 true (spills.map encI)),(4,.box 3 [(.J first)]),(5,.box 78 [(.J 0),(.J 0),(.J 0)])] 6 a' w') (spills.length-0) ⟨0,rfl,Nat.zero_le _,(fun i hi=>by omega),(PX.canon [] _ _ 6 hS hE (by kernel_rfl) (by kernel_rfl) (by kernel_rfl))⟩ ?_
  clear hS; rintro m8 a w ⟨q,hm8,hleq,hIq,hS⟩
  refine PX.G [(.e 23 (.sc (.bool (decide ((q:Int)<(spills.length:Int))))))] [] 6 [] [] [.au] [0,2,3,5,20,21,22,23] [1,2,3,4,5] hS hE trivial fun a w hS=>?_
  refine wp_seq_k fun K9 hK9=>?_
  refine PX.cond_s (decide ((q:Int)<(spills.length:Int))) hS (by kernel_rfl) (fun h10=>?_) (fun h10=>?_)
  ·skip
   refine wp_skip ?_
   refine hK9 _ _ ?_
   refine wp_seq_k fun K11 hK11=>?_
   refine wp_block ?_
   have hlty:q<spills.length:=by simpa using h10
   obtain ⟨y,hy⟩:=get_of_lt hlty
   refine PX.G [(.e 7 (.sc (.I (q:Int)))),(.e 8 (.J y))] [] 6 [.q ((q:Int)=(q:Int)),.q (q<spills.length),.q ((spills.map encI)[q]?=some (encI y))] [] [.au,.ix q [],.lr (encI y),.au,.au] [0,2,3,5,7,8,20,21,22] [1,2,3,4,5] hS hE ⟨rfl,hlty,PX.map_get hy,trivial⟩ fun a w hS=>?_
   refine PX.G [(.e 29 (.sc (.bool (decide (y≤k)))))] [] 6 [] [] [.au,.au,.au] [0,2,3,5,7,20,21,22,29] [1,2,3,4,5] hS hE trivial fun a w hS=>?_
   refine PX.cond_s (decide (y≤k)) hS (by kernel_rfl) (fun h12=>?_) (fun h12=>?_)
   ·skip
    refine PX.G [] [(5,.box 78 [(.J 3),(.sc (.I (first+(q:Int)))),(.J 0)])] 6 [.q ((.sc (.I (IntKind.i64.wrap (first+(q:Int)))):PX.PV)=(.sc (.I (first+(q:Int)))))] [] [.au,.au,.nm (.sc (.I (first+(q:Int)))),.au,.au] [0,2,3,5,20,21,22] [1,2,3,4,5] hS hE ⟨PX.nm_int (by rw [IntWalk.i64_in _ (by omega)]),trivial⟩ fun a w hS=>?_
    refine wp_ret ?_
    try simp only [Exit.then,Exit.inBlock,Nat.reduceEqDiff,↓reduceIte]
    have hf:freeD regs spills first k=((3,first+(q:Int),0),spills):=by unfold freeD; rw [hR0,show firstS spills k=some q from find_range hlty hIq (by rw [hy]; exact h12)]
    rw [hf] at hE ⊢
    replace hS:=PX.sl [5] hS
    replace hS:=PX.canon [(5,3),(6,5)] [(.e 5 (.ptr 6 0))] [(1,.box 152 (PX.cells13 regs)),(2,.box 35 [(.own 5 1 spills.length)]),(4,.box 3 [(.J first)]),(5,.row 3 1 true (spills.map encI)),(6,.box 78 [(.J 3),(.sc (.I (first+(q:Int)))),(.J 0)])] 7 hS hE (by kernel_rfl) (by kernel_rfl) (by kernel_rfl)
    exact PX.ret_s hS hE (by kernel_rfl) (by kernel_rfl) (by kernel_rfl) (.inl rfl)
   ·skip
    refine wp_skip ?_
    refine hK11 _ _ ?_
    refine PX.G0 [(.e 22 (.sc (.I ((q+1:Nat):Int))))] [] 6 [.q ((.sc (.I (IntKind.i64.wrap ((q:Int)+1))):PX.PV)=(.sc (.I ((q+1:Nat):Int))))] [] [.nm (.sc (.I ((q+1:Nat):Int))),.au] [0,2,3,5,20,21,22] [1,2,3,4,5] hS hE ⟨PX.nm_int (by rw [IntWalk.i64_in _ (by omega)]; omega),trivial⟩ fun a w hS=>?_
    exact ⟨spills.length-(q+1),by omega,q+1,rfl,by omega,(fun i hi=>if q1:i<q then hIq i q1 else by obtain rfl:i=q:=(by omega); rw [hy]; exact h12),(PX.canon [] _ _ 6 hS hE (by kernel_rfl) (by kernel_rfl) (by kernel_rfl))⟩
  ·skip
   refine wp_exit ?_
   refine hK7 _ _ ?_
   have hS0:firstS spills k=none:=find_range_none (fun i hi=>hIq i (by have:=le_of_dec h10; omega))
   refine PX.G [] [(2,.box 35 [(.own 7 1 ((spills.map encI:List (List PX.PV)).length+1))]),(7,.row 3 1 true (spills.map encI++[[(.sc (.I (-1)))]]))] 8 [.b (lenIs spills.length (spills.map encI)),.b (lenIs 1 ([[(.sc (.I (-1)))]])),.b (Nat.ble ((spills.map encI:List (List PX.PV)).length+1) 1000000000)] [] [.au,.au,.au,.au] [2,3,5] [1,2,4,5,7] hS hE ⟨by simp [PX.lenIs],rfl,by simp; omega,trivial⟩ fun a w hS=>?_
   replace hS:=PX.recell (id:=2) (j:=0) (.own 7 1 (spills.length+1)) hS rfl rfl rfl (fun _ _ _ _ h=>(show (spills.map encI:List (List PX.PV)).length+1=spills.length+1 from by simp) ▸ h)
   refine PX.G [] [(5,.box 78 [(.J 3),(.sc (.I (first+(spills.length:Int)))),(.J 0)])] 8 [.q ((.sc (.I (IntKind.i64.wrap (first+((spills.length+1:Nat):Int)))):PX.PV)=(.sc (.I (first+((spills.length+1:Nat):Int))))),.q ((.sc (.I (IntKind.i64.wrap ((first+((spills.length+1:Nat):Int))-1))):PX.PV)=(.sc (.I (first+(spills.length:Int)))))] [] [.au,.au,.au,.nm (.sc (.I (first+((spills.length+1:Nat):Int)))),.nm (.sc (.I (first+(spills.length:Int)))),.au,.au] [5] [1,2,4,5,7] hS hE ⟨PX.nm_int (by rw [IntWalk.i64_in _ (by omega)]),PX.nm_int (by rw [IntWalk.i64_in _ (by omega)]; omega),trivial⟩ fun a w hS=>?_
   refine wp_ret ?_
   try simp only [Exit.then,Exit.inBlock,Nat.reduceEqDiff,↓reduceIte]
   have hf:freeD regs spills first k=((3,first+(spills.length:Int),0),spills++[-1]):=by unfold freeD; rw [hR0,hS0]
   rw [hf] at hE ⊢
   replace hS:=PX.recell (id:=2) (j:=0) (.own 7 1 ((spills++[-1]).length)) hS rfl rfl rfl (fun _ _ _ _ h=>(show spills.length+1=(spills++[-1]).length from by simp) ▸ h)
   replace hS:=PX.rerow (id:=7) ((spills++[-1]).map encI) hS rfl (by simp [encI])
   replace hS:=PX.sl [5] hS
   replace hS:=PX.canon [(5,7),(6,5)] [(.e 5 (.ptr 6 0))] [(1,.box 152 (PX.cells13 regs)),(2,.box 35 [(.own 5 1 ((spills++[-1]).length))]),(4,.box 3 [(.J first)]),(5,.row 3 1 true ((spills++[-1]).map encI)),(6,.box 78 [(.J 3),(.sc (.I (first+(spills.length:Int)))),(.J 0)])] 7 hS hE (by kernel_rfl) (by kernel_rfl) (by kernel_rfl)
   exact PX.ret_s hS hE (by kernel_rfl) (by kernel_rfl) (by kernel_rfl) (.inl rfl)
end Go.Proofs.Ytlkcidmmpeebeaa
