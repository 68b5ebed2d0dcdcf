/- Proved: the small functions of the law -/
import Derived.Test.YtlkcidmmpeebeaaPAlG
set_option linter.unusedVariables false
set_option linter.unusedSimpArgs false
namespace Go.Proofs.Ytlkcidmmpeebeaa
open Go.RowKit Go.PX
set_option maxRecDepth 100000
set_option maxHeartbeats 400000 in
theorem con_f34 (p v:Int) (ops:List OpD) (hl:ops.length≤1000000):PX.Con Try.prog 34 [(.J p),(.J v),(.imm 11 (ops.map encO))] [] 1 100000 (codeP (retC p v ops)) []:=by
 refine PX.con_intro [(.J p),(.J v),(.imm 11 (ops.map encO))] 24 Try.func34 rfl rfl (by kernel_rfl) (by kernel_rfl) ?_
 intro E a hE hS
 generalize E.w0=w at hS ⊢
 have mix:=mixed
 refine PX.G [(.e 6 (.ptr 1 0))] [(1,.box 26 [(.J 0),(.sc (.slice none 0 0)),(.sc (.slice none 0 0)),(.sc (.slice none 0 0))])] 2 [] [] [.au] [0,1,2,6] [1] hS hE trivial fun a w hS=>?_
 refine PX.G [(.e 7 (.ptr 4 0))] [(3,.row 74 11 true (ops.map encO)),(4,.box 62 [(.J p),(.own 3 11 (0+(ops.map encO).length)),(.J 4),(.J v),(.J 0),(.sc (.slice none 0 0)),(.sc (.I (-1))),(.sc (.slice none 0 0)),(.sc (.I (-1))),(.sc (.slice none 0 0))])] 5 [.b (lenIs 0 ([])),.b true,.b (Nat.ble (0+(ops.map encO).length) 1000000000)] [] [.au,.au,.au,.au,.au,.au,.au,.au,.au,.au,.au,.au] [0,6,7] [1,3,4] hS hE ⟨rfl,rfl,by simp; omega,trivial⟩ fun a w hS=>?_
 replace hS:=PX.recell (id:=4) (j:=5) (.imm 1 []) hS rfl rfl rfl (PX.nil_imm 1)
 replace hS:=PX.recell (id:=4) (j:=7) (.imm 1 []) hS rfl rfl rfl (PX.nil_imm 1)
 replace hS:=PX.recell (id:=4) (j:=9) (.imm 1 []) hS rfl rfl rfl (PX.nil_imm 1)
 replace hS:=PX.fz 3 [] [(4,.box 62 [(.J p),(.imm 11 (ops.map encO)),(.J 4),(.J v),(.J 0),(.imm 1 ([])),(.sc (.I (-1))),(.imm 1 ([])),(.sc (.I (-1))),(.imm 1 ([]))])] [0,6,7] [4,1] [.b (PX.lenIs (0+(ops.map encO).length) (ops.map encO))] hS ⟨(by simp [PX.lenIs]),trivial⟩
 refine PX.G [] [(1,.box 26 [(.J p),(.own 5 10 1),(.own 6 3 1),(.sc (.slice none 0 0))]),(5,.row 62 10 true ([[(.J p),(.imm 11 (ops.map encO)),(.J 4),(.J v),(.J 0),(.imm 1 ([])),(.sc (.I (-1))),(.imm 1 ([])),(.sc (.I (-1))),(.imm 1 ([]))]])),(6,.row 99 3 true ([[(.sc (.I (-1))),(.sc (.I (-1))),(.J 0)]]))] 7 [] [] [.au,.au,.au,.au,.au,.au,.au] [6] [1,5,6] hS hE trivial fun a w hS=>?_
 replace hS:=PX.recell (id:=1) (j:=3) (.imm 3 []) hS rfl rfl rfl (PX.nil_imm 3)
 replace hS:=PX.fz 5 [] [(1,.box 26 [(.J p),(.imm 10 ([[(.J p),(.imm 11 (ops.map encO)),(.J 4),(.J v),(.J 0),(.imm 1 ([])),(.sc (.I (-1))),(.imm 1 ([])),(.sc (.I (-1))),(.imm 1 ([]))]])),(.own 6 3 1),(.imm 3 ([]))])] [6] [1,6] [.b (PX.lenIs 1 ([[(.J p),(.imm 11 (ops.map encO)),(.J 4),(.J v),(.J 0),(.imm 1 ([])),(.sc (.I (-1))),(.imm 1 ([])),(.sc (.I (-1))),(.imm 1 ([]))]]))] hS ⟨(by simp [PX.lenIs]),trivial⟩
 replace hS:=PX.fz 6 [] [(1,.box 26 [(.J p),(.imm 10 ([[(.J p),(.imm 11 (ops.map encO)),(.J 4),(.J v),(.J 0),(.imm 1 ([])),(.sc (.I (-1))),(.imm 1 ([])),(.sc (.I (-1))),(.imm 1 ([]))]])),(.imm 3 ([[(.sc (.I (-1))),(.sc (.I (-1))),(.J 0)]])),(.imm 3 ([]))])] [6] [1] [.b (PX.lenIs 1 ([[(.sc (.I (-1))),(.sc (.I (-1))),(.J 0)]]))] hS ⟨(by simp [PX.lenIs]),trivial⟩
 refine wp_ret ?_
 rw [show (codeP (retC p v ops))=((.agg [(.J p),(.imm 10 ([[(.J p),(.imm 11 (ops.map encO)),(.J 4),(.J v),(.J 0),(.imm 1 ([])),(.sc (.I (-1))),(.imm 1 ([])),(.sc (.I (-1))),(.imm 1 ([]))]])),(.imm 3 ([[(.sc (.I (-1))),(.sc (.I (-1))),(.J 0)]])),(.imm 3 ([]))]):PX.PV) from rfl]
 exact PX.rt hS hE (.inl rfl)

set_option maxHeartbeats 400000 in
theorem con_f70 (xs:List PlaceD) (hl:xs.length≤1000000):PX.Con Try.prog 70 [(.imm 3 (xs.map encR)),(.imm 3 (xs.map encR))] [] 1 100000 (.sc (.bool true)) []:=by
 refine PX.con_intro [(.imm 3 (xs.map encR)),(.imm 3 (xs.map encR))] 26 Try.func70 rfl rfl (by kernel_rfl) (by kernel_rfl) ?_
 intro E a hE hS
 generalize E.w0=w at hS ⊢
 have mix:=mixed
 refine PX.G [] [] 1 [] [] [.au] [0,1] [] hS hE trivial fun a w hS=>?_
 refine wp_seq_k fun K1 hK1=>?_
 refine PX.G [(.e 10 (.sc (.bool ((xs.length:Int) != (xs.length:Int)))))] [] 1 [.q ((.sc (.I (((xs.map encR).length:Nat):Int)):PX.PV)=(.sc (.I (xs.length:Int)))),.q ((.sc (.I (((xs.map encR).length:Nat):Int)):PX.PV)=(.sc (.I (xs.length:Int))))] [] [.au,.nm (.sc (.I (xs.length:Int))),.au,.nm (.sc (.I (xs.length:Int))),.au] [0,1,10] [] hS hE ⟨PX.nm_len (by simp),PX.nm_len (by simp),trivial⟩ fun a w hS=>?_
 refine PX.cond_s ((xs.length:Int) != (xs.length:Int)) hS (by kernel_rfl) (fun h2=>?_) (fun h2=>?_)
 ·skip
  exact absurd h2 (by simp)
 ·skip
  refine wp_skip ?_
  refine hK1 _ _ ?_
  refine wp_seq_k fun K3 hK3=>?_
  refine PX.G [(.e 5 (.J 0))] [] 1 [] [] [.au] [0,1,5] [] hS hE trivial fun a w hS=>?_
  refine wp_block ?_
  refine wp_loop_ghost (fun m4 a' w'=>∃ k:Nat,m4=xs.length-k∧k≤xs.length∧True∧PX.Sat E 26 [(.e 0 (.imm 3 (xs.map encR))),(.e 1 (.imm 3 (xs.map encR))),(.e 5 (.sc (.I (k:Int))))] [] 1 a' w') (xs.length-0) ⟨0,rfl,Nat.zero_le _,trivial,(PX.cn [] _ _ 1 hS hE)⟩ ?_
  clear hS; rintro m4 a w ⟨k,hm4,hlek,hIk,hS⟩
  refine wp_seq_k fun K5 hK5=>?_
  refine PX.G [(.e 14 (.sc (.bool (decide ((k:Int)<(xs.length:Int))))))] [] 1 [.q ((.sc (.I (((xs.map encR).length:Nat):Int)):PX.PV)=(.sc (.I (xs.length:Int))))] [] [.au,.au,.nm (.sc (.I (xs.length:Int))),.au] [0,1,5,14] [] hS hE ⟨PX.nm_len (by simp),trivial⟩ fun a w hS=>?_
  refine PX.cond_s (decide ((k:Int)<(xs.length:Int))) hS (by kernel_rfl) (fun h6=>?_) (fun h6=>?_)
  ·skip
   refine wp_skip ?_
   refine hK5 _ _ ?_
   refine wp_seq_k fun K7 hK7=>?_
   refine wp_block ?_
   have hlty:k<xs.length:=by simpa using h6
   obtain ⟨y,hy⟩:=get_of_lt hlty
   refine PX.D [(.e 25 (.sc (.bool false)))] [] 1 [.q ((k:Int)=(k:Int)),.q ((xs.map encR)[k]?=some (encR y)),.q ((k:Int)=(k:Int)),.q ((xs.map encR)[k]?=some (encR y)),.q (PX.BinIs Try.prog .neq 78 (.tmp 20) (.tmp 24) (.agg [.I y.1,.I y.2.1,.I y.2.2].toArray) (.agg [.I y.1,.I y.2.1,.I y.2.2].toArray) (.bool false))] [] [.au,.au,.ix k (encR y),.au,.au,.au,.ix k (encR y),.au,.bs (.bool false)] [0,1,5,25] [] hS mixed hE ⟨rfl,PX.map_get hy,rfl,PX.map_get hy,self_ne78 _ _ rfl rfl rfl,trivial⟩ fun a w hS=>?_
   refine PX.cond_s false hS (by kernel_rfl) (fun h8=>nomatch h8) (fun h8=>?_)
   refine wp_skip ?_
   refine hK7 _ _ ?_
   refine PX.G0 [(.e 5 (.sc (.I ((k+1:Nat):Int))))] [] 1 [.q ((.sc (.I (IntKind.i64.wrap ((k:Int)+1))):PX.PV)=(.sc (.I ((k+1:Nat):Int))))] [] [.au,.nm (.sc (.I ((k+1:Nat):Int))),.au] [0,1,5] [] hS hE ⟨PX.nm_int (by rw [IntWalk.i64_in _ (by omega)]; omega),trivial⟩ fun a w hS=>?_
   exact ⟨xs.length-(k+1),by omega,k+1,rfl,by omega,trivial,(PX.cn [] _ _ 1 hS hE)⟩
  ·skip
   refine wp_exit ?_
   refine hK3 _ _ ?_
   refine PX.G [(.e 4 (.sc (.bool true)))] [] 1 [] [] [.au] [4] [] hS hE trivial fun a w hS=>?_
   refine wp_ret ?_
   exact PX.rt hS hE (.inl rfl)

theorem con_f32k {lo top:Nat}:PX.Con Try.prog 32 [codeP kAl,.sc (.bool false)] [] lo top (layP kLl) []:=by
 have h:=con_f32 false kAl codeI_kAl (fun h=>by cases h)
 rw [lay_k] at h
 exact PX.con_any h
set_option maxHeartbeats 1000000 in
theorem con_known15  : PX.Con Try.prog 27 [] [] 1 100000 (.sc (.bool true)) []:=by
 refine PX.con_intro [] 32 Try.func27 rfl rfl (by kernel_rfl) (by kernel_rfl) ?_
 intro E a hE hS
 generalize E.w0=w at hS ⊢
 have mix:=mixed
 refine PX.G [] [] 1 [] [] [.au] [] [] hS hE trivial fun a w hS=>?_
 refine PX.G [(.e 1 (.ptr 2 0))] [(2,.box 68 [(.imm 1 ([[(.imm 3 [[(.J 2),(.J 1),(.J 0)],[(.J 2),(.J 2),(.J 0)],[(.J 2),(.J 1),(.J 0)],[(.J 2),(.J 1),(.J 0)]])]])),(.J 0),(.J 0),(.imm 1 ([])),(.J 0)])] 3 [.q (PX.Con Try.prog 34 [(.J 2),(.J 3),(.imm 11 ([[(.J 3),(.J 2),(.J 0),(.J 1),(.J 0),(.J 0),(.J 0),(.J 0),(.J 0),(.J 0),(.J 0)],[(.J 3),(.J 3),(.J 2),(.J 1),(.J 0),(.J 0),(.J 0),(.J 0),(.J 0),(.J 0),(.J 0)]]))] [] 2 2 (.agg [(.J 2),(.imm 10 (kAl.blocks.map encB)),(.imm 3 (kAl.contexts.map encR)),(.imm 3 (kAl.objects.map encR))]) []),.b (PX.lenIs 2 ([[(.J 3),(.J 2),(.J 0),(.J 1),(.J 0),(.J 0),(.J 0),(.J 0),(.J 0),(.J 0),(.J 0)],[(.J 3),(.J 3),(.J 2),(.J 1),(.J 0),(.J 0),(.J 0),(.J 0),(.J 0),(.J 0),(.J 0)]])),.q (PX.Con Try.prog 32 [(.agg [(.J 2),(.imm 10 (kAl.blocks.map encB)),(.imm 3 (kAl.contexts.map encR)),(.imm 3 (kAl.objects.map encR))]),(.sc (.bool false))] [] 2 2 (.agg [(.imm 1 ([[(.imm 3 [[(.J 2),(.J 1),(.J 0)],[(.J 2),(.J 2),(.J 0)],[(.J 2),(.J 1),(.J 0)],[(.J 2),(.J 1),(.J 0)]])]])),(.J 0),(.J 0),(.imm 1 ([])),(.J 0)]) [])] [] [.au,.au,.au,.cv [1] (.agg [(.J 2),(.imm 10 (kAl.blocks.map encB)),(.imm 3 (kAl.contexts.map encR)),(.imm 3 (kAl.objects.map encR))]) 2,.cl [] (.agg [(.imm 1 ([[(.imm 3 [[(.J 2),(.J 1),(.J 0)],[(.J 2),(.J 2),(.J 0)],[(.J 2),(.J 1),(.J 0)],[(.J 2),(.J 1),(.J 0)]])]])),(.J 0),(.J 0),(.imm 1 ([])),(.J 0)]) [] 2,.au,.au] [1] [2] hS hE ⟨PX.con_any (con_f34 2 3 [⟨3,2,0,1,0,0,0,0,0,0,0⟩,⟨3,3,2,1,0,0,0,0,0,0,0⟩] (by decide)),rfl,con_f32k,trivial⟩ fun a w hS=>?_
 refine PX.G [(.e 2 (.ptr 3 0)),(.e 3 (.ptr 4 0))] [(3,.box 78 [(.J 2),(.J 1),(.J 0)]),(4,.box 78 [(.J 2),(.J 2),(.J 0)])] 5 [] [] [.au,.au,.au,.au,.au,.au] [1,2,3] [2,3,4] hS hE trivial fun a w hS=>?_
 refine PX.D [(.e 0 (.sc (.bool true)))] [] 6 [.q ((.sc (.I ((([[(.imm 3 [[(.J 2),(.J 1),(.J 0)],[(.J 2),(.J 2),(.J 0)],[(.J 2),(.J 1),(.J 0)],[(.J 2),(.J 1),(.J 0)]])]]:List (List PX.PV)).length:Nat):Int)):PX.PV)=(.J 1)),.q (0=((0:Nat):Int)),.q (([[(.imm 3 [[(.J 2),(.J 1),(.J 0)],[(.J 2),(.J 2),(.J 0)],[(.J 2),(.J 1),(.J 0)],[(.J 2),(.J 1),(.J 0)]])]]:List (List PX.PV))[0]?=some ([(.imm 3 [[(.J 2),(.J 1),(.J 0)],[(.J 2),(.J 2),(.J 0)],[(.J 2),(.J 1),(.J 0)],[(.J 2),(.J 1),(.J 0)]])])),.q (PX.Con Try.prog 70 [(.imm 3 ([[(.J 2),(.J 1),(.J 0)],[(.J 2),(.J 2),(.J 0)],[(.J 2),(.J 1),(.J 0)],[(.J 2),(.J 1),(.J 0)]])),(.imm 3 ([[(.J 2),(.J 1),(.J 0)],[(.J 2),(.J 2),(.J 0)],[(.J 2),(.J 1),(.J 0)],[(.J 2),(.J 1),(.J 0)]]))] [] 6 6 (.sc (.bool true)) []),.b (PX.lenIs 4 ([[(.J 2),(.J 1),(.J 0)],[(.J 2),(.J 2),(.J 0)],[(.J 2),(.J 1),(.J 0)],[(.J 2),(.J 1),(.J 0)]]))] [] [.au,.au,.nm (.J 1),.au,.au,.au,.au,.ix 0 ([(.imm 3 [[(.J 2),(.J 1),(.J 0)],[(.J 2),(.J 2),(.J 0)],[(.J 2),(.J 1),(.J 0)],[(.J 2),(.J 1),(.J 0)]])]),.au,.au,.au,.au,.au,.au,.cv [5] (.sc (.bool true)) 6,.au,.au,.au,.au,.au,.au,.au] [0] [] hS mixed hE ⟨rfl,rfl,rfl,PX.con_any (con_f70 [(2,1,0),(2,2,0),(2,1,0),(2,1,0)] (by decide)),rfl,trivial⟩ fun a w hS=>?_
 refine wp_ret ?_
 exact PX.rt hS hE (.inl rfl)

theorem con_known15_any {lo top:Nat}:PX.Con Try.prog 27 [] [] lo top (.sc (.bool true)) []:=PX.con_any con_known15
end Go.Proofs.Ytlkcidmmpeebeaa
