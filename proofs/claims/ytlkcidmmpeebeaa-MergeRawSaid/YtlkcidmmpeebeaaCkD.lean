/- Proved: same.Code on plain data -/
import Derived.Test.YtlkcidmmpeebeaaCkA
import Derived.Test.YtlkcidmmpeebeaaPcD
import Derived.Test.YtlkcidmmpeebeaaCkB
import Derived.Test.YtlkcidmmpeebeaaCkC
set_option linter.unusedVariables false
set_option linter.unusedSimpArgs false
namespace Go.Proofs.Ytlkcidmmpeebeaa
open Go.RowKit Go.PX
set_option maxRecDepth 100000
theorem self_ne99 (i j:Nat) (x0 x1 x2:Int):PX.BinIs Try.prog .neq 99 (.tmp i) (.tmp j) (.agg #[.I x0,.I x1,.I x2]) (.agg #[.I x0,.I x1,.I x2]) (.bool false):=by
 intro w
 simp [go_sem,eqGuard,Try.underlying99]

theorem self_ne102 (i j:Nat) (x0 x1 x2:Int):PX.BinIs Try.prog .neq 102 (.tmp i) (.tmp j) (.agg #[.I x0,.I x1,.I x2]) (.agg #[.I x0,.I x1,.I x2]) (.bool false):=by
 intro w
 simp [go_sem,eqGuard,Try.underlying102]

theorem self_ne74 (i j:Nat) (x0 x1 x2 x3 x4 x5 x6 x7 x8 x9 x10:Int):PX.BinIs Try.prog .neq 74 (.tmp i) (.tmp j) (.agg #[.I x0,.I x1,.I x2,.I x3,.I x4,.I x5,.I x6,.I x7,.I x8,.I x9,.I x10]) (.agg #[.I x0,.I x1,.I x2,.I x3,.I x4,.I x5,.I x6,.I x7,.I x8,.I x9,.I x10]) (.bool false):=by
 intro w
 simp [go_sem,eqGuard,Try.underlying74,Try.underlying72]

set_option maxHeartbeats 1000000 in
theorem con_s28 (xs:List Int) (hl:xs.length≤140737488351232):PX.Con Try.prog 28 [(.imm 1 (xs.map encI)),(.imm 1 (xs.map encI))] [] 1 100000 (.sc (.bool true)) []:=by
 refine PX.con_intro [(.imm 1 (xs.map encI)),(.imm 1 (xs.map encI))] 26 Try.func28 rfl rfl (by kernel_rfl) (by kernel_rfl) ?_
 intro E a hE hS
 generalize E.w0=w at hS ⊢
 have mix:=mixed
 refine PX.G [] [] 1 [] [] [.au] [0,1] [] hS hE trivial fun a w hS=>?_
 refine wp_seq_k fun K1 hK1=>?_
 refine PX.G [(.e 10 (.sc (.bool false)))] [] 1 [.q ((.sc (.I (((xs.map encI).length:Nat):Int)):PX.PV)=(.sc (.I (xs.length:Int)))),.q ((.sc (.I (((xs.map encI).length:Nat):Int)):PX.PV)=(.sc (.I (xs.length:Int)))),.q ((.sc (.bool ((xs.length:Int) != (xs.length:Int))):PX.PV)=(.sc (.bool false)))] [] [.au,.nm (.sc (.I (xs.length:Int))),.au,.nm (.sc (.I (xs.length:Int))),.nm (.sc (.bool false))] [0,1,10] [] hS hE ⟨PX.nm_len (by simp),PX.nm_len (by simp),by simp,trivial⟩ fun a w hS=>?_
 refine PX.cond_s false hS (by kernel_rfl) (fun h2=>nomatch h2) (fun h2=>?_)
 refine wp_skip ?_
 refine hK1 _ _ ?_
 refine wp_seq_k fun K3 hK3=>?_
 refine PX.G [(.e 5 (.J 0))] [] 1 [] [] [.au] [0,1,5] [] hS hE trivial fun a w hS=>?_
 refine wp_block ?_
 refine wp_loop_ghost (fun m4 a' w'=>∃ k:Nat,m4=xs.length-k∧k≤xs.length∧True∧PX.Sat E 26 [(.e 0 (.imm 1 (xs.map encI))),(.e 1 (.imm 1 (xs.map encI))),(.e 5 (.sc (.I (k:Int))))] [] 1 a' w') (xs.length-0) ⟨0,rfl,Nat.zero_le _,trivial,(PX.cn [] _ _ 1 hS hE)⟩ ?_
 clear hS; rintro m4 a w ⟨k,hm4,hlek,hIk,hS⟩
 refine wp_seq_k fun K5 hK5=>?_
 refine PX.G [(.e 14 (.sc (.bool (decide ((k:Int)<(xs.length:Int))))))] [] 1 [.q ((.sc (.I (((xs.map encI).length:Nat):Int)):PX.PV)=(.sc (.I (xs.length:Int))))] [] [.au,.au,.nm (.sc (.I (xs.length:Int))),.au] [0,1,5,14] [] hS hE ⟨PX.nm_len (by simp),trivial⟩ fun a w hS=>?_
 refine PX.cond_s (decide ((k:Int)<(xs.length:Int))) hS (by kernel_rfl) (fun h6=>?_) (fun h6=>?_)
 ·skip
  refine wp_skip ?_
  refine hK5 _ _ ?_
  refine wp_seq_k fun K7 hK7=>?_
  refine wp_block ?_
  have hlty:k<xs.length:=by simpa using h6
  obtain ⟨y,hy⟩:=get_of_lt hlty
  refine PX.D [(.e 25 (.sc (.bool false)))] [] 1 [.q ((k:Int)=(k:Int)),.q ((xs.map encI)[k]?=some (encI y)),.q ((k:Int)=(k:Int)),.q ((xs.map encI)[k]?=some (encI y)),.q ((.sc (.bool (y != y)):PX.PV)=(.sc (.bool false)))] [] [.au,.au,.ix k (encI y),.au,.au,.au,.ix k (encI y),.au,.nm (.sc (.bool false))] [0,1,5,25] [] hS mixed hE ⟨rfl,PX.map_get hy,rfl,PX.map_get hy,by simp,trivial⟩ fun a w hS=>?_
  refine PX.cond_s false hS (by kernel_rfl) (fun h8=>nomatch h8) (fun h8=>?_)
  refine wp_skip ?_
  refine hK7 _ _ ?_
  refine PX.G0 [(.e 5 (.sc (.I ((k+1:Nat):Int))))] [] 1 [.q ((.sc (.I (IntKind.i64.wrap ((k:Int)+1))):PX.PV)=(.sc (.I ((k+1:Nat):Int))))] [] [.au,.nm (.sc (.I ((k+1:Nat):Int))),.au] [0,1,5] [] hS hE ⟨PX.nm_int (by rw [IntWalk.i64_in _ (by omega)]; omega),trivial⟩ fun a w hS=>?_
  exact ⟨xs.length-(k+1),by omega,k+1,rfl,by omega,trivial,(PX.cn [] _ _ 1 hS hE)⟩
 ·skip
  refine wp_exit ?_
  refine hK3 _ _ ?_
  refine PX.G [(.e 4 (.sc (.bool true)))] [] 1 [] [] [.au] [4] [] hS hE trivial fun a w hS=>?_
  refine wp_ret ?_
  exact PX.rt hS hE (.inl rfl)

set_option maxHeartbeats 1000000 in
theorem con_s52 (xs:List (Int × Int × Int)) (hl:xs.length≤140737488351232):PX.Con Try.prog 52 [(.imm 3 (xs.map encR)),(.imm 3 (xs.map encR))] [] 1 100000 (.sc (.bool true)) []:=by
 refine PX.con_intro [(.imm 3 (xs.map encR)),(.imm 3 (xs.map encR))] 26 Try.func52 rfl rfl (by kernel_rfl) (by kernel_rfl) ?_
 intro E a hE hS
 generalize E.w0=w at hS ⊢
 have mix:=mixed
 refine PX.G [] [] 1 [] [] [.au] [0,1] [] hS hE trivial fun a w hS=>?_
 refine wp_seq_k fun K1 hK1=>?_
 refine PX.G [(.e 10 (.sc (.bool false)))] [] 1 [.q ((.sc (.I (((xs.map encR).length:Nat):Int)):PX.PV)=(.sc (.I (xs.length:Int)))),.q ((.sc (.I (((xs.map encR).length:Nat):Int)):PX.PV)=(.sc (.I (xs.length:Int)))),.q ((.sc (.bool ((xs.length:Int) != (xs.length:Int))):PX.PV)=(.sc (.bool false)))] [] [.au,.nm (.sc (.I (xs.length:Int))),.au,.nm (.sc (.I (xs.length:Int))),.nm (.sc (.bool false))] [0,1,10] [] hS hE ⟨PX.nm_len (by simp),PX.nm_len (by simp),by simp,trivial⟩ fun a w hS=>?_
 refine PX.cond_s false hS (by kernel_rfl) (fun h2=>nomatch h2) (fun h2=>?_)
 refine wp_skip ?_
 refine hK1 _ _ ?_
 refine wp_seq_k fun K3 hK3=>?_
 refine PX.G [(.e 5 (.J 0))] [] 1 [] [] [.au] [0,1,5] [] hS hE trivial fun a w hS=>?_
 refine wp_block ?_
 refine wp_loop_ghost (fun m4 a' w'=>∃ k:Nat,m4=xs.length-k∧k≤xs.length∧True∧PX.Sat E 26 [(.e 0 (.imm 3 (xs.map encR))),(.e 1 (.imm 3 (xs.map encR))),(.e 5 (.sc (.I (k:Int))))] [] 1 a' w') (xs.length-0) ⟨0,rfl,Nat.zero_le _,trivial,(PX.cn [] _ _ 1 hS hE)⟩ ?_
 clear hS; rintro m4 a w ⟨k,hm4,hlek,hIk,hS⟩
 refine wp_seq_k fun K5 hK5=>?_
 refine PX.G [(.e 14 (.sc (.bool (decide ((k:Int)<(xs.length:Int))))))] [] 1 [.q ((.sc (.I (((xs.map encR).length:Nat):Int)):PX.PV)=(.sc (.I (xs.length:Int))))] [] [.au,.au,.nm (.sc (.I (xs.length:Int))),.au] [0,1,5,14] [] hS hE ⟨PX.nm_len (by simp),trivial⟩ fun a w hS=>?_
 refine PX.cond_s (decide ((k:Int)<(xs.length:Int))) hS (by kernel_rfl) (fun h6=>?_) (fun h6=>?_)
 ·skip
  refine wp_skip ?_
  refine hK5 _ _ ?_
  refine wp_seq_k fun K7 hK7=>?_
  refine wp_block ?_
  have hlty:k<xs.length:=by simpa using h6
  obtain ⟨y,hy⟩:=get_of_lt hlty
  refine PX.D [(.e 25 (.sc (.bool false)))] [] 1 [.q ((k:Int)=(k:Int)),.q ((xs.map encR)[k]?=some (encR y)),.q ((k:Int)=(k:Int)),.q ((xs.map encR)[k]?=some (encR y)),.q (PX.BinIs Try.prog .neq 99 (.tmp 20) (.tmp 24) (.agg #[.I y.1,.I y.2.1,.I y.2.2]) (.agg #[.I y.1,.I y.2.1,.I y.2.2]) (.bool false))] [] [.au,.au,.ix k (encR y),.au,.au,.au,.ix k (encR y),.au,.bs (.bool false)] [0,1,5,25] [] hS mixed hE ⟨rfl,PX.map_get hy,rfl,PX.map_get hy,self_ne99 _ _ _ _ _,trivial⟩ fun a w hS=>?_
  refine PX.cond_s false hS (by kernel_rfl) (fun h8=>nomatch h8) (fun h8=>?_)
  refine wp_skip ?_
  refine hK7 _ _ ?_
  refine PX.G0 [(.e 5 (.sc (.I ((k+1:Nat):Int))))] [] 1 [.q ((.sc (.I (IntKind.i64.wrap ((k:Int)+1))):PX.PV)=(.sc (.I ((k+1:Nat):Int))))] [] [.au,.nm (.sc (.I ((k+1:Nat):Int))),.au] [0,1,5] [] hS hE ⟨PX.nm_int (by rw [IntWalk.i64_in _ (by omega)]; omega),trivial⟩ fun a w hS=>?_
  exact ⟨xs.length-(k+1),by omega,k+1,rfl,by omega,trivial,(PX.cn [] _ _ 1 hS hE)⟩
 ·skip
  refine wp_exit ?_
  refine hK3 _ _ ?_
  refine PX.G [(.e 4 (.sc (.bool true)))] [] 1 [] [] [.au] [4] [] hS hE trivial fun a w hS=>?_
  refine wp_ret ?_
  exact PX.rt hS hE (.inl rfl)

set_option maxHeartbeats 1000000 in
theorem con_s53 (xs:List (Int × Int × Int)) (hl:xs.length≤140737488351232):PX.Con Try.prog 53 [(.imm 3 (xs.map encR)),(.imm 3 (xs.map encR))] [] 1 100000 (.sc (.bool true)) []:=by
 refine PX.con_intro [(.imm 3 (xs.map encR)),(.imm 3 (xs.map encR))] 26 Try.func53 rfl rfl (by kernel_rfl) (by kernel_rfl) ?_
 intro E a hE hS
 generalize E.w0=w at hS ⊢
 have mix:=mixed
 refine PX.G [] [] 1 [] [] [.au] [0,1] [] hS hE trivial fun a w hS=>?_
 refine wp_seq_k fun K1 hK1=>?_
 refine PX.G [(.e 10 (.sc (.bool false)))] [] 1 [.q ((.sc (.I (((xs.map encR).length:Nat):Int)):PX.PV)=(.sc (.I (xs.length:Int)))),.q ((.sc (.I (((xs.map encR).length:Nat):Int)):PX.PV)=(.sc (.I (xs.length:Int)))),.q ((.sc (.bool ((xs.length:Int) != (xs.length:Int))):PX.PV)=(.sc (.bool false)))] [] [.au,.nm (.sc (.I (xs.length:Int))),.au,.nm (.sc (.I (xs.length:Int))),.nm (.sc (.bool false))] [0,1,10] [] hS hE ⟨PX.nm_len (by simp),PX.nm_len (by simp),by simp,trivial⟩ fun a w hS=>?_
 refine PX.cond_s false hS (by kernel_rfl) (fun h2=>nomatch h2) (fun h2=>?_)
 refine wp_skip ?_
 refine hK1 _ _ ?_
 refine wp_seq_k fun K3 hK3=>?_
 refine PX.G [(.e 5 (.J 0))] [] 1 [] [] [.au] [0,1,5] [] hS hE trivial fun a w hS=>?_
 refine wp_block ?_
 refine wp_loop_ghost (fun m4 a' w'=>∃ k:Nat,m4=xs.length-k∧k≤xs.length∧True∧PX.Sat E 26 [(.e 0 (.imm 3 (xs.map encR))),(.e 1 (.imm 3 (xs.map encR))),(.e 5 (.sc (.I (k:Int))))] [] 1 a' w') (xs.length-0) ⟨0,rfl,Nat.zero_le _,trivial,(PX.cn [] _ _ 1 hS hE)⟩ ?_
 clear hS; rintro m4 a w ⟨k,hm4,hlek,hIk,hS⟩
 refine wp_seq_k fun K5 hK5=>?_
 refine PX.G [(.e 14 (.sc (.bool (decide ((k:Int)<(xs.length:Int))))))] [] 1 [.q ((.sc (.I (((xs.map encR).length:Nat):Int)):PX.PV)=(.sc (.I (xs.length:Int))))] [] [.au,.au,.nm (.sc (.I (xs.length:Int))),.au] [0,1,5,14] [] hS hE ⟨PX.nm_len (by simp),trivial⟩ fun a w hS=>?_
 refine PX.cond_s (decide ((k:Int)<(xs.length:Int))) hS (by kernel_rfl) (fun h6=>?_) (fun h6=>?_)
 ·skip
  refine wp_skip ?_
  refine hK5 _ _ ?_
  refine wp_seq_k fun K7 hK7=>?_
  refine wp_block ?_
  have hlty:k<xs.length:=by simpa using h6
  obtain ⟨y,hy⟩:=get_of_lt hlty
  refine PX.D [(.e 25 (.sc (.bool false)))] [] 1 [.q ((k:Int)=(k:Int)),.q ((xs.map encR)[k]?=some (encR y)),.q ((k:Int)=(k:Int)),.q ((xs.map encR)[k]?=some (encR y)),.q (PX.BinIs Try.prog .neq 102 (.tmp 20) (.tmp 24) (.agg #[.I y.1,.I y.2.1,.I y.2.2]) (.agg #[.I y.1,.I y.2.1,.I y.2.2]) (.bool false))] [] [.au,.au,.ix k (encR y),.au,.au,.au,.ix k (encR y),.au,.bs (.bool false)] [0,1,5,25] [] hS mixed hE ⟨rfl,PX.map_get hy,rfl,PX.map_get hy,self_ne102 _ _ _ _ _,trivial⟩ fun a w hS=>?_
  refine PX.cond_s false hS (by kernel_rfl) (fun h8=>nomatch h8) (fun h8=>?_)
  refine wp_skip ?_
  refine hK7 _ _ ?_
  refine PX.G0 [(.e 5 (.sc (.I ((k+1:Nat):Int))))] [] 1 [.q ((.sc (.I (IntKind.i64.wrap ((k:Int)+1))):PX.PV)=(.sc (.I ((k+1:Nat):Int))))] [] [.au,.nm (.sc (.I ((k+1:Nat):Int))),.au] [0,1,5] [] hS hE ⟨PX.nm_int (by rw [IntWalk.i64_in _ (by omega)]; omega),trivial⟩ fun a w hS=>?_
  exact ⟨xs.length-(k+1),by omega,k+1,rfl,by omega,trivial,(PX.cn [] _ _ 1 hS hE)⟩
 ·skip
  refine wp_exit ?_
  refine hK3 _ _ ?_
  refine PX.G [(.e 4 (.sc (.bool true)))] [] 1 [] [] [.au] [4] [] hS hE trivial fun a w hS=>?_
  refine wp_ret ?_
  exact PX.rt hS hE (.inl rfl)

set_option maxHeartbeats 1000000 in
theorem con_s54 (xs:List OpD) (hl:xs.length≤140737488351232):PX.Con Try.prog 54 [(.imm 11 (xs.map encO)),(.imm 11 (xs.map encO))] [] 1 100000 (.sc (.bool true)) []:=by
 refine PX.con_intro [(.imm 11 (xs.map encO)),(.imm 11 (xs.map encO))] 26 Try.func54 rfl rfl (by kernel_rfl) (by kernel_rfl) ?_
 intro E a hE hS
 generalize E.w0=w at hS ⊢
 have mix:=mixed
 refine PX.G [] [] 1 [] [] [.au] [0,1] [] hS hE trivial fun a w hS=>?_
 refine wp_seq_k fun K1 hK1=>?_
 refine PX.G [(.e 10 (.sc (.bool false)))] [] 1 [.q ((.sc (.I (((xs.map encO).length:Nat):Int)):PX.PV)=(.sc (.I (xs.length:Int)))),.q ((.sc (.I (((xs.map encO).length:Nat):Int)):PX.PV)=(.sc (.I (xs.length:Int)))),.q ((.sc (.bool ((xs.length:Int) != (xs.length:Int))):PX.PV)=(.sc (.bool false)))] [] [.au,.nm (.sc (.I (xs.length:Int))),.au,.nm (.sc (.I (xs.length:Int))),.nm (.sc (.bool false))] [0,1,10] [] hS hE ⟨PX.nm_len (by simp),PX.nm_len (by simp),by simp,trivial⟩ fun a w hS=>?_
 refine PX.cond_s false hS (by kernel_rfl) (fun h2=>nomatch h2) (fun h2=>?_)
 refine wp_skip ?_
 refine hK1 _ _ ?_
 refine wp_seq_k fun K3 hK3=>?_
 refine PX.G [(.e 5 (.J 0))] [] 1 [] [] [.au] [0,1,5] [] hS hE trivial fun a w hS=>?_
 refine wp_block ?_
 refine wp_loop_ghost (fun m4 a' w'=>∃ k:Nat,m4=xs.length-k∧k≤xs.length∧True∧PX.Sat E 26 [(.e 0 (.imm 11 (xs.map encO))),(.e 1 (.imm 11 (xs.map encO))),(.e 5 (.sc (.I (k:Int))))] [] 1 a' w') (xs.length-0) ⟨0,rfl,Nat.zero_le _,trivial,(PX.cn [] _ _ 1 hS hE)⟩ ?_
 clear hS; rintro m4 a w ⟨k,hm4,hlek,hIk,hS⟩
 refine wp_seq_k fun K5 hK5=>?_
 refine PX.G [(.e 14 (.sc (.bool (decide ((k:Int)<(xs.length:Int))))))] [] 1 [.q ((.sc (.I (((xs.map encO).length:Nat):Int)):PX.PV)=(.sc (.I (xs.length:Int))))] [] [.au,.au,.nm (.sc (.I (xs.length:Int))),.au] [0,1,5,14] [] hS hE ⟨PX.nm_len (by simp),trivial⟩ fun a w hS=>?_
 refine PX.cond_s (decide ((k:Int)<(xs.length:Int))) hS (by kernel_rfl) (fun h6=>?_) (fun h6=>?_)
 ·skip
  refine wp_skip ?_
  refine hK5 _ _ ?_
  refine wp_seq_k fun K7 hK7=>?_
  refine wp_block ?_
  have hlty:k<xs.length:=by simpa using h6
  obtain ⟨y,hy⟩:=get_of_lt hlty
  refine PX.D [(.e 25 (.sc (.bool false)))] [] 1 [.q ((k:Int)=(k:Int)),.q ((xs.map encO)[k]?=some (encO y)),.q ((k:Int)=(k:Int)),.q ((xs.map encO)[k]?=some (encO y)),.q (PX.BinIs Try.prog .neq 74 (.tmp 20) (.tmp 24) (.agg #[.I y.kind,.I y.dst,.I y.a,.I y.b,.I y.n,.I y.ctx,.I y.var,.I y.piece,.I y.sk,.I y.sv,.I y.sa]) (.agg #[.I y.kind,.I y.dst,.I y.a,.I y.b,.I y.n,.I y.ctx,.I y.var,.I y.piece,.I y.sk,.I y.sv,.I y.sa]) (.bool false))] [] [.au,.au,.ix k (encO y),.au,.au,.au,.ix k (encO y),.au,.bs (.bool false)] [0,1,5,25] [] hS mixed hE ⟨rfl,PX.map_get hy,rfl,PX.map_get hy,self_ne74 _ _ _ _ _ _ _ _ _ _ _ _ _,trivial⟩ fun a w hS=>?_
  refine PX.cond_s false hS (by kernel_rfl) (fun h8=>nomatch h8) (fun h8=>?_)
  refine wp_skip ?_
  refine hK7 _ _ ?_
  refine PX.G0 [(.e 5 (.sc (.I ((k+1:Nat):Int))))] [] 1 [.q ((.sc (.I (IntKind.i64.wrap ((k:Int)+1))):PX.PV)=(.sc (.I ((k+1:Nat):Int))))] [] [.au,.nm (.sc (.I ((k+1:Nat):Int))),.au] [0,1,5] [] hS hE ⟨PX.nm_int (by rw [IntWalk.i64_in _ (by omega)]; omega),trivial⟩ fun a w hS=>?_
  exact ⟨xs.length-(k+1),by omega,k+1,rfl,by omega,trivial,(PX.cn [] _ _ 1 hS hE)⟩
 ·skip
  refine wp_exit ?_
  refine hK3 _ _ ?_
  refine PX.G [(.e 4 (.sc (.bool true)))] [] 1 [] [] [.au] [4] [] hS hE trivial fun a w hS=>?_
  refine wp_ret ?_
  exact PX.rt hS hE (.inl rfl)

set_option maxHeartbeats 400000 in
theorem con_s55 (p0 p1:Int) (x0 x1:List Int) (h0:x0.length≤140737488351232) (h1:x1.length≤140737488351232):PX.Con Try.prog 55 [(.agg [(.J p0),(.imm 1 (x0.map encI)),(.J p1),(.imm 1 (x1.map encI))]),(.agg [(.J p0),(.imm 1 (x0.map encI)),(.J p1),(.imm 1 (x1.map encI))])] [] 1 100000 (.sc (.bool true)) []:=by
 refine PX.con_intro [(.agg [(.J p0),(.imm 1 (x0.map encI)),(.J p1),(.imm 1 (x1.map encI))]),(.agg [(.J p0),(.imm 1 (x0.map encI)),(.J p1),(.imm 1 (x1.map encI))])] 39 Try.func55 rfl rfl (by kernel_rfl) (by kernel_rfl) ?_
 intro E a hE hS
 generalize E.w0=w at hS ⊢
 have mix:=mixed
 refine PX.G [(.e 2 (.ptr 1 0)),(.e 3 (.ptr 2 0))] [(1,.box 58 [(.J p0),(.imm 1 (x0.map encI)),(.J p1),(.imm 1 (x1.map encI))]),(2,.box 58 [(.J p0),(.imm 1 (x0.map encI)),(.J p1),(.imm 1 (x1.map encI))])] 3 [] [] [.au,.au,.au] [2,3] [1,2] hS hE trivial fun a w hS=>?_
 refine PX.G [(.e 4 (.sc (.bool true)))] [] 3 [.q ((.sc (.bool (p0==p0)):PX.PV)=(.sc (.bool true))),.q ((.sc (.bool (p1==p1)):PX.PV)=(.sc (.bool true))),.q (PX.Con Try.prog 28 [(.imm 1 (x0.map encI)),(.imm 1 (x0.map encI))] [] 3 3 (.sc (.bool true)) []),.q (PX.Con Try.prog 28 [(.imm 1 (x1.map encI)),(.imm 1 (x1.map encI))] [] 3 3 (.sc (.bool true)) [])] [] [.au,.au,.au,.au,.au,.au,.nm (.sc (.bool true)),.au,.au,.au,.au,.au,.au,.au,.nm (.sc (.bool true)),.au,.au,.au,.au,.au,.au,.au,.au,.cl [] (.sc (.bool true)) [] 3,.au,.au,.au,.au,.au,.au,.au,.au,.cl [] (.sc (.bool true)) [] 3,.au,.au] [4] [] hS hE ⟨by simp,by simp,PX.con_any (con_s28 x0 (by omega)),PX.con_any (con_s28 x1 (by omega)),trivial⟩ fun a w hS=>?_
 refine wp_ret ?_
 exact PX.rt hS hE (.inl rfl)

set_option maxHeartbeats 1000000 in
theorem con_s16 (c:CodeD) (hl:CodeL c):PX.Con Try.prog 16 [(codeP c),(codeP c)] [] 1 100000 (.sc (.bool true)) []:=by
 refine PX.con_intro [(codeP c),(codeP c)] 115 Try.func16 rfl rfl (by kernel_rfl) (by kernel_rfl) ?_
 intro E a hE hS
 generalize E.w0=w at hS ⊢
 have mix:=mixed; have hlb:=hl.blocks; have hlc:=hl.ctx; have hlo:=hl.obj
 refine PX.G [(.e 2 (.ptr 1 0)),(.e 3 (.ptr 2 0))] [(1,.box 26 (codeL c)),(2,.box 26 (codeL c))] 3 [] [] [.au,.au,.au] [2,3] [1,2] hS hE trivial fun a w hS=>?_
 refine wp_seq_k fun K1 hK1=>?_
 refine PX.G [(.e 37 (.sc (.bool false)))] [] 3 [.q ((.sc (.bool (c.params != c.params)):PX.PV)=(.sc (.bool false))),.q ((.sc (.I (((c.blocks.map encB).length:Nat):Int)):PX.PV)=(.sc (.I (c.blocks.length:Int)))),.q ((.sc (.I (((c.blocks.map encB).length:Nat):Int)):PX.PV)=(.sc (.I (c.blocks.length:Int)))),.q ((.sc (.bool ((c.blocks.length:Int) != (c.blocks.length:Int))):PX.PV)=(.sc (.bool false))),.q (PX.Con Try.prog 52 [(.imm 3 (c.contexts.map encR)),(.imm 3 (c.contexts.map encR))] [] 3 3 (.sc (.bool true)) []),.q (PX.Con Try.prog 53 [(.imm 3 (c.objects.map encR)),(.imm 3 (c.objects.map encR))] [] 3 3 (.sc (.bool true)) [])] [] [.au,.au,.au,.au,.nm (.sc (.bool false)),.au,.au,.au,.nm (.sc (.I (c.blocks.length:Int))),.au,.au,.nm (.sc (.I (c.blocks.length:Int))),.nm (.sc (.bool false)),.au,.au,.au,.au,.au,.au,.cl [] (.sc (.bool true)) [] 3,.au,.au,.au,.au,.au,.au,.au,.cl [] (.sc (.bool true)) [] 3,.au,.au] [2,3,37] [1,2] hS hE ⟨by simp,PX.nm_len (by simp),PX.nm_len (by simp),by simp,PX.con_any (con_s52 c.contexts (by omega)),PX.con_any (con_s53 c.objects (by omega)),trivial⟩ fun a w hS=>?_
 refine PX.cond_s false hS (by kernel_rfl) (fun h2=>nomatch h2) (fun h2=>?_)
 refine wp_skip ?_
 refine hK1 _ _ ?_
 refine wp_seq_k fun K3 hK3=>?_
 refine PX.G [(.e 5 (.J 0))] [] 3 [] [] [.au] [2,3,5] [1,2] hS hE trivial fun a w hS=>?_
 refine wp_block ?_
 refine wp_loop_ghost (fun m4 a' w'=>∃ k:Nat,m4=c.blocks.length-k∧k≤c.blocks.length∧True∧PX.Sat E 115 [(.e 2 (.ptr 1 0)),(.e 3 (.ptr 2 0)),(.e 5 (.sc (.I (k:Int))))] [(1,.box 26 (codeL c)),(2,.box 26 (codeL c))] 3 a' w') (c.blocks.length-0) ⟨0,rfl,Nat.zero_le _,trivial,(PX.cn [] _ _ 3 hS hE)⟩ ?_
 clear hS; rintro m4 a w ⟨k,hm4,hlek,hIk,hS⟩
 refine wp_seq_k fun K5 hK5=>?_
 refine PX.G [(.e 42 (.sc (.bool (decide ((k:Int)<(c.blocks.length:Int))))))] [] 3 [.q ((.sc (.I (((c.blocks.map encB).length:Nat):Int)):PX.PV)=(.sc (.I (c.blocks.length:Int))))] [] [.au,.au,.au,.nm (.sc (.I (c.blocks.length:Int))),.au] [2,3,5,42] [1,2] hS hE ⟨PX.nm_len (by simp),trivial⟩ fun a w hS=>?_
 refine PX.cond_s (decide ((k:Int)<(c.blocks.length:Int))) hS (by kernel_rfl) (fun h6=>?_) (fun h6=>?_)
 ·skip
  refine wp_skip ?_
  refine hK5 _ _ ?_
  refine wp_seq_k fun K7 hK7=>?_
  refine wp_block ?_
  have hlty:k<c.blocks.length:=by simpa using h6
  obtain ⟨y,hy⟩:=get_of_lt hlty
  have hby:=hl.blk y (List.mem_of_getElem? hy); have hb1:=hby.ops; have hb2:=hby.args; have hb3:=hby.args0; have hb4:=hby.args1
  refine PX.D [(.e 6 (.ptr 3 0)),(.e 7 (.ptr 4 0))] [(3,.box 62 (encB y)),(4,.box 62 (encB y))] 5 [.q ((k:Int)=(k:Int)),.q ((c.blocks.map encB)[k]?=some (encB y)),.q ((k:Int)=(k:Int)),.q ((c.blocks.map encB)[k]?=some (encB y))] [] [.au,.au,.au,.ix k (encB y),.au,.au,.au,.au,.ix k (encB y),.au,.au,.au,.au,.au] [2,3,5,6,7] [1,2,3,4] hS mixed hE ⟨rfl,PX.map_get hy,rfl,PX.map_get hy,trivial⟩ fun a w hS=>?_
  refine PX.G [(.e 61 (.ptr 3 1)),(.e 62 (.imm 11 (y.ops.map encO))),(.e 63 (.ptr 4 1)),(.e 64 (.imm 11 (y.ops.map encO))),(.e 65 (.sc (.bool true))),(.e 66 (.sc (.bool false))),(.e 69 (.ptr 3 2)),(.e 70 (.ptr 3 2)),(.e 71 (.J y.term.kind)),(.e 72 (.ptr 4 2)),(.e 73 (.ptr 4 2)),(.e 74 (.J y.term.kind)),(.e 75 (.sc (.bool false))),(.e 78 (.ptr 3 2)),(.e 79 (.ptr 3 3)),(.e 80 (.J y.term.a)),(.e 81 (.ptr 4 2)),(.e 82 (.ptr 4 3)),(.e 83 (.J y.term.a)),(.e 84 (.sc (.bool false))),(.e 87 (.ptr 3 2)),(.e 88 (.ptr 3 4)),(.e 89 (.J y.term.n)),(.e 90 (.ptr 4 2)),(.e 91 (.ptr 4 4)),(.e 92 (.J y.term.n)),(.e 93 (.sc (.bool false))),(.e 96 (.ptr 3 2)),(.e 97 (.ptr 3 5)),(.e 98 (.imm 1 (y.term.args.map encI))),(.e 99 (.ptr 4 2)),(.e 100 (.ptr 4 5)),(.e 101 (.imm 1 (y.term.args.map encI))),(.e 102 (.sc (.bool true))),(.e 103 (.sc (.bool false))),(.e 106 (.ptr 3 2)),(.e 107 (.ptr 3 6)),(.e 108 (.agg [(.J y.term.b0),(.imm 1 (y.term.args0.map encI)),(.J y.term.b1),(.imm 1 (y.term.args1.map encI))])),(.e 109 (.ptr 4 2)),(.e 110 (.ptr 4 6)),(.e 111 (.agg [(.J y.term.b0),(.imm 1 (y.term.args0.map encI)),(.J y.term.b1),(.imm 1 (y.term.args1.map encI))])),(.e 112 (.sc (.bool true))),(.e 113 (.sc (.bool false))),(.e 114 (.sc (.bool false)))] [] 5 [.q ((.sc (.bool (y.params != y.params)):PX.PV)=(.sc (.bool false))),.q (PX.Con Try.prog 54 [(.imm 11 (y.ops.map encO)),(.imm 11 (y.ops.map encO))] [] 5 5 (.sc (.bool true)) []),.q ((.sc (.bool (y.term.kind != y.term.kind)):PX.PV)=(.sc (.bool false))),.q ((.sc (.bool (y.term.a != y.term.a)):PX.PV)=(.sc (.bool false))),.q ((.sc (.bool (y.term.n != y.term.n)):PX.PV)=(.sc (.bool false))),.q (PX.Con Try.prog 28 [(.imm 1 (y.term.args.map encI)),(.imm 1 (y.term.args.map encI))] [] 5 5 (.sc (.bool true)) []),.q (PX.Con Try.prog 55 [(.agg [(.J y.term.b0),(.imm 1 (y.term.args0.map encI)),(.J y.term.b1),(.imm 1 (y.term.args1.map encI))]),(.agg [(.J y.term.b0),(.imm 1 (y.term.args0.map encI)),(.J y.term.b1),(.imm 1 (y.term.args1.map encI))])] [] 5 5 (.sc (.bool true)) [])] [] [.au,.au,.au,.au,.nm (.sc (.bool false)),.au,.au,.au,.au,.au,.cl [] (.sc (.bool true)) [] 5,.au,.au,.au,.au,.au,.au,.au,.au,.au,.nm (.sc (.bool false)),.au,.au,.au,.au,.au,.au,.au,.au,.nm (.sc (.bool false)),.au,.au,.au,.au,.au,.au,.au,.au,.nm (.sc (.bool false)),.au,.au,.au,.au,.au,.au,.au,.au,.cl [] (.sc (.bool true)) [] 5,.au,.au,.au,.au,.au,.au,.au,.au,.au,.cl [] (.sc (.bool true)) [] 5,.au,.au] [2,3,5,61,62,63,64,65,66,69,70,71,72,73,74,75,78,79,80,81,82,83,84,87,88,89,90,91,92,93,96,97,98,99,100,101,102,103,106,107,108,109,110,111,112,113,114] [1,2,3,4] hS hE ⟨by simp,PX.con_any (con_s54 y.ops (by omega)),by simp,by simp,by simp,PX.con_any (con_s28 y.term.args (by omega)),PX.con_any (con_s55 _ _ y.term.args0 y.term.args1 (by omega) (by omega)),trivial⟩ fun a w hS=>?_
  refine PX.cond_s false hS (by kernel_rfl) (fun h8=>nomatch h8) (fun h8=>?_)
  refine wp_skip ?_
  refine hK7 _ _ ?_
  refine PX.G0 [(.e 5 (.sc (.I ((k+1:Nat):Int))))] [] 5 [.q ((.sc (.I (IntKind.i64.wrap ((k:Int)+1))):PX.PV)=(.sc (.I ((k+1:Nat):Int))))] [] [.au,.nm (.sc (.I ((k+1:Nat):Int))),.au] [2,3,5,61,62,63,64,65,66,69,70,71,72,73,74,75,78,79,80,81,82,83,84,87,88,89,90,91,92,93,96,97,98,99,100,101,102,103,106,107,108,109,110,111,112,113] [1,2,3,4] hS hE ⟨PX.nm_int (by rw [IntWalk.i64_in _ (by omega)]; omega),trivial⟩ fun a w hS=>?_
  replace hS:=PX.sl [2,3,5] hS
  exact ⟨c.blocks.length-(k+1),by omega,k+1,rfl,by omega,trivial,(PX.cn [] _ _ 3 hS hE)⟩
 ·skip
  refine wp_exit ?_
  refine hK3 _ _ ?_
  refine PX.G [(.e 4 (.sc (.bool true)))] [] 3 [] [] [.au] [4] [] hS hE trivial fun a w hS=>?_
  refine wp_ret ?_
  exact PX.rt hS hE (.inl rfl)
end Go.Proofs.Ytlkcidmmpeebeaa

/- Proved: slices.Clone on plain data -/
namespace Go.Proofs.Ytlkcidmmpeebeaa
open Go.RowKit Go.PX
set_option maxRecDepth 100000
theorem eq_nil23 (i:Nat) (A:Option Addr) (n c:Nat):PX.BinIs Try.prog .eql 23 (.tmp i) (.const (.slice none 0 0)) (.slice A n c) (.slice none 0 0) (.bool A.isNone):=by
 intro w
 simp [go_sem,eqGuard,Try.underlying23]
 cases A with
 | none=>exact Lib.run_eql_slice_nil w 23 99 none n c 0 0 Try.underlying23
 | some a=>exact Lib.run_eql_slice_nil w 23 99 (some a) n c 0 0 Try.underlying23

set_option maxHeartbeats 400000 in
theorem clone47_s (xs:List (Int × Int × Int)) (ad:Addr) (n cp:Nat) (hl:xs.length≤1000000):PX.Con Try.prog 47 [(.sc ((.slice (some ad) n cp)))] [(1,.ty (.slice (some ad) n cp) (.imm 3 (xs.map encR)))] 2 100000 (.own 3 3 (xs.map encR).length) [(1,none),(3,some (.row 99 3 true (xs.map encR)))]:=by
 refine PX.con_intro [(.sc ((.slice (some ad) n cp)))] 8 Try.func47 rfl rfl (by kernel_rfl) (by kernel_rfl) ?_
 intro E a hE hS
 generalize E.w0=w at hS ⊢
 have mix:=mixed
 refine PX.G [] [] 2 [] [] [.au] [0] [1] hS hE trivial fun a w hS=>?_
 refine wp_seq_k fun K1 hK1=>?_
 refine PX.G [(.e 4 (.sc (.bool false)))] [] 2 [.q (PX.BinIs Try.prog .eql 23 (.tmp 3) (.const (.slice none 0 0)) (.slice (some ad) n cp) (.slice none 0 0) (.bool false))] [] [.au,.bs (.bool false)] [0,4] [1] hS hE ⟨eq_nil23 _ _ _ _,trivial⟩ fun a w hS=>?_
 refine PX.cond_s false hS (by kernel_rfl) (fun h2=>nomatch h2) (fun h2=>?_)
 refine wp_skip ?_
 refine hK1 _ _ ?_
 replace hS:=PX.sl [0,4] (PX.reslot_g (t:=0) (g:=1) hS rfl rfl)
 refine PX.G [(.e 2 (.own 3 3 (0+(xs.map encR).length)))] [(3,.row 99 3 true (xs.map encR))] 4 [.b (lenIs 0 ([])),.b true,.b (Nat.ble (0+(xs.map encR).length) 1000000000)] [] [.au,.au,.au,.au] [0,2] [1,3] hS hE ⟨rfl,rfl,by simp; omega,trivial⟩ fun a w hS=>?_
 refine wp_ret ?_
 rw [show (.own 3 3 (xs.map encR).length)=((.own 3 3 (0+(xs.map encR).length)):PX.PV) from by congr 1; simp]
 exact PX.rt hS hE (.inl rfl)

set_option maxHeartbeats 400000 in
theorem clone47_n  : PX.Con Try.prog 47 [(.sc (.slice none 0 0))] [] 1 100000 (.sc (.slice none 0 0)) []:=by
 refine PX.con_intro [(.sc (.slice none 0 0))] 8 Try.func47 rfl rfl (by kernel_rfl) (by kernel_rfl) ?_
 intro E a hE hS
 generalize E.w0=w at hS ⊢
 have mix:=mixed
 refine PX.G [] [] 1 [] [] [.au] [0] [] hS hE trivial fun a w hS=>?_
 refine wp_seq_k fun K1 hK1=>?_
 refine PX.G [(.e 4 (.sc (.bool true)))] [] 1 [.q (PX.BinIs Try.prog .eql 23 (.tmp 3) (.const (.slice none 0 0)) (.slice none 0 0) (.slice none 0 0) (.bool true))] [] [.au,.bs (.bool true)] [0,4] [] hS hE ⟨eq_nil23 _ _ _ _,trivial⟩ fun a w hS=>?_
 refine PX.cond_s true hS (by kernel_rfl) (fun h2=>?_) (fun h2=>nomatch h2)
 refine PX.G [(.e 2 (.sc (.slice none 0 0)))] [] 1 [] [] [.au] [2] [] hS hE trivial fun a w hS=>?_
 refine wp_ret ?_
 exact PX.rt hS hE (.inl rfl)

theorem con_cloneC_o {xs:List (Int × Int × Int)} {lo:Nat} (hi:∀ x∈xs,RecI x) (hl:xs.length≤1000000):PX.Con Try.prog 47 [.imm 3 (xs.map encR)] [] lo (lo+1) (.own lo 3 xs.length) [(lo,some (.row 99 3 true (xs.map encR)))]:=by
 have h:=PX.clone_own (f:=47) (P:=Try.prog) (rows:=xs.map encR) (e:=99) (sz:=3) (by simp; omega) (fun r hr=>by obtain ⟨x,_,rfl⟩:=List.mem_map.1 hr; exact ⟨rfl,rfl⟩) (fun ad n cp=>clone47_s xs ad n cp hl) clone47_n lo
 rwa [List.length_map] at h
theorem con_cloneC {lo top:Nat} {xs:List (Int × Int × Int)} (hi:∀ x∈xs,RecI x) (hl:xs.length≤1000000):PX.Con Try.prog 47 [.imm 3 (xs.map encR)] [] lo top (.imm 3 (xs.map encR)) []:=by
 have h:=con_cloneC_o (lo:=1) hi hl
 rw [← List.length_map (f:=encR)] at h
 exact PX.clone_imm h lo top

theorem eq_nil24 (i:Nat) (A:Option Addr) (n c:Nat):PX.BinIs Try.prog .eql 24 (.tmp i) (.const (.slice none 0 0)) (.slice A n c) (.slice none 0 0) (.bool A.isNone):=by
 intro w
 simp [go_sem,eqGuard,Try.underlying24]
 cases A with
 | none=>exact Lib.run_eql_slice_nil w 24 102 none n c 0 0 Try.underlying24
 | some a=>exact Lib.run_eql_slice_nil w 24 102 (some a) n c 0 0 Try.underlying24

set_option maxHeartbeats 400000 in
theorem clone48_s (xs:List (Int × Int × Int)) (ad:Addr) (n cp:Nat) (hl:xs.length≤1000000):PX.Con Try.prog 48 [(.sc ((.slice (some ad) n cp)))] [(1,.ty (.slice (some ad) n cp) (.imm 3 (xs.map encR)))] 2 100000 (.own 3 3 (xs.map encR).length) [(1,none),(3,some (.row 102 3 true (xs.map encR)))]:=by
 refine PX.con_intro [(.sc ((.slice (some ad) n cp)))] 8 Try.func48 rfl rfl (by kernel_rfl) (by kernel_rfl) ?_
 intro E a hE hS
 generalize E.w0=w at hS ⊢
 have mix:=mixed
 refine PX.G [] [] 2 [] [] [.au] [0] [1] hS hE trivial fun a w hS=>?_
 refine wp_seq_k fun K1 hK1=>?_
 refine PX.G [(.e 4 (.sc (.bool false)))] [] 2 [.q (PX.BinIs Try.prog .eql 24 (.tmp 3) (.const (.slice none 0 0)) (.slice (some ad) n cp) (.slice none 0 0) (.bool false))] [] [.au,.bs (.bool false)] [0,4] [1] hS hE ⟨eq_nil24 _ _ _ _,trivial⟩ fun a w hS=>?_
 refine PX.cond_s false hS (by kernel_rfl) (fun h2=>nomatch h2) (fun h2=>?_)
 refine wp_skip ?_
 refine hK1 _ _ ?_
 replace hS:=PX.sl [0,4] (PX.reslot_g (t:=0) (g:=1) hS rfl rfl)
 refine PX.G [(.e 2 (.own 3 3 (0+(xs.map encR).length)))] [(3,.row 102 3 true (xs.map encR))] 4 [.b (lenIs 0 ([])),.b true,.b (Nat.ble (0+(xs.map encR).length) 1000000000)] [] [.au,.au,.au,.au] [0,2] [1,3] hS hE ⟨rfl,rfl,by simp; omega,trivial⟩ fun a w hS=>?_
 refine wp_ret ?_
 rw [show (.own 3 3 (xs.map encR).length)=((.own 3 3 (0+(xs.map encR).length)):PX.PV) from by congr 1; simp]
 exact PX.rt hS hE (.inl rfl)

set_option maxHeartbeats 400000 in
theorem clone48_n  : PX.Con Try.prog 48 [(.sc (.slice none 0 0))] [] 1 100000 (.sc (.slice none 0 0)) []:=by
 refine PX.con_intro [(.sc (.slice none 0 0))] 8 Try.func48 rfl rfl (by kernel_rfl) (by kernel_rfl) ?_
 intro E a hE hS
 generalize E.w0=w at hS ⊢
 have mix:=mixed
 refine PX.G [] [] 1 [] [] [.au] [0] [] hS hE trivial fun a w hS=>?_
 refine wp_seq_k fun K1 hK1=>?_
 refine PX.G [(.e 4 (.sc (.bool true)))] [] 1 [.q (PX.BinIs Try.prog .eql 24 (.tmp 3) (.const (.slice none 0 0)) (.slice none 0 0) (.slice none 0 0) (.bool true))] [] [.au,.bs (.bool true)] [0,4] [] hS hE ⟨eq_nil24 _ _ _ _,trivial⟩ fun a w hS=>?_
 refine PX.cond_s true hS (by kernel_rfl) (fun h2=>?_) (fun h2=>nomatch h2)
 refine PX.G [(.e 2 (.sc (.slice none 0 0)))] [] 1 [] [] [.au] [2] [] hS hE trivial fun a w hS=>?_
 refine wp_ret ?_
 exact PX.rt hS hE (.inl rfl)

theorem con_cloneO_o {xs:List (Int × Int × Int)} {lo:Nat} (hi:∀ x∈xs,RecI x) (hl:xs.length≤1000000):PX.Con Try.prog 48 [.imm 3 (xs.map encR)] [] lo (lo+1) (.own lo 3 xs.length) [(lo,some (.row 102 3 true (xs.map encR)))]:=by
 have h:=PX.clone_own (f:=48) (P:=Try.prog) (rows:=xs.map encR) (e:=102) (sz:=3) (by simp; omega) (fun r hr=>by obtain ⟨x,_,rfl⟩:=List.mem_map.1 hr; exact ⟨rfl,rfl⟩) (fun ad n cp=>clone48_s xs ad n cp hl) clone48_n lo
 rwa [List.length_map] at h
theorem con_cloneO {lo top:Nat} {xs:List (Int × Int × Int)} (hi:∀ x∈xs,RecI x) (hl:xs.length≤1000000):PX.Con Try.prog 48 [.imm 3 (xs.map encR)] [] lo top (.imm 3 (xs.map encR)) []:=by
 have h:=con_cloneO_o (lo:=1) hi hl
 rw [← List.length_map (f:=encR)] at h
 exact PX.clone_imm h lo top

theorem eq_nil35 (i:Nat) (A:Option Addr) (n c:Nat):PX.BinIs Try.prog .eql 35 (.tmp i) (.const (.slice none 0 0)) (.slice A n c) (.slice none 0 0) (.bool A.isNone):=by
 intro w
 simp [go_sem,eqGuard,Try.underlying35]
 cases A with
 | none=>exact Lib.run_eql_slice_nil w 35 3 none n c 0 0 Try.underlying35
 | some a=>exact Lib.run_eql_slice_nil w 35 3 (some a) n c 0 0 Try.underlying35

set_option maxHeartbeats 400000 in
theorem clone49_s (xs:List Int) (ad:Addr) (n cp:Nat) (hl:xs.length≤1000000):PX.Con Try.prog 49 [(.sc ((.slice (some ad) n cp)))] [(1,.ty (.slice (some ad) n cp) (.imm 1 (xs.map encI)))] 2 100000 (.own 3 1 (xs.map encI).length) [(1,none),(3,some (.row 3 1 true (xs.map encI)))]:=by
 refine PX.con_intro [(.sc ((.slice (some ad) n cp)))] 8 Try.func49 rfl rfl (by kernel_rfl) (by kernel_rfl) ?_
 intro E a hE hS
 generalize E.w0=w at hS ⊢
 have mix:=mixed
 refine PX.G [] [] 2 [] [] [.au] [0] [1] hS hE trivial fun a w hS=>?_
 refine wp_seq_k fun K1 hK1=>?_
 refine PX.G [(.e 4 (.sc (.bool false)))] [] 2 [.q (PX.BinIs Try.prog .eql 35 (.tmp 3) (.const (.slice none 0 0)) (.slice (some ad) n cp) (.slice none 0 0) (.bool false))] [] [.au,.bs (.bool false)] [0,4] [1] hS hE ⟨eq_nil35 _ _ _ _,trivial⟩ fun a w hS=>?_
 refine PX.cond_s false hS (by kernel_rfl) (fun h2=>nomatch h2) (fun h2=>?_)
 refine wp_skip ?_
 refine hK1 _ _ ?_
 replace hS:=PX.sl [0,4] (PX.reslot_g (t:=0) (g:=1) hS rfl rfl)
 refine PX.G [(.e 2 (.own 3 1 (0+(xs.map encI).length)))] [(3,.row 3 1 true (xs.map encI))] 4 [.b (lenIs 0 ([])),.b true,.b (Nat.ble (0+(xs.map encI).length) 1000000000)] [] [.au,.au,.au,.au] [0,2] [1,3] hS hE ⟨rfl,rfl,by simp; omega,trivial⟩ fun a w hS=>?_
 refine wp_ret ?_
 rw [show (.own 3 1 (xs.map encI).length)=((.own 3 1 (0+(xs.map encI).length)):PX.PV) from by congr 1; simp]
 exact PX.rt hS hE (.inl rfl)

set_option maxHeartbeats 400000 in
theorem clone49_n  : PX.Con Try.prog 49 [(.sc (.slice none 0 0))] [] 1 100000 (.sc (.slice none 0 0)) []:=by
 refine PX.con_intro [(.sc (.slice none 0 0))] 8 Try.func49 rfl rfl (by kernel_rfl) (by kernel_rfl) ?_
 intro E a hE hS
 generalize E.w0=w at hS ⊢
 have mix:=mixed
 refine PX.G [] [] 1 [] [] [.au] [0] [] hS hE trivial fun a w hS=>?_
 refine wp_seq_k fun K1 hK1=>?_
 refine PX.G [(.e 4 (.sc (.bool true)))] [] 1 [.q (PX.BinIs Try.prog .eql 35 (.tmp 3) (.const (.slice none 0 0)) (.slice none 0 0) (.slice none 0 0) (.bool true))] [] [.au,.bs (.bool true)] [0,4] [] hS hE ⟨eq_nil35 _ _ _ _,trivial⟩ fun a w hS=>?_
 refine PX.cond_s true hS (by kernel_rfl) (fun h2=>?_) (fun h2=>nomatch h2)
 refine PX.G [(.e 2 (.sc (.slice none 0 0)))] [] 1 [] [] [.au] [2] [] hS hE trivial fun a w hS=>?_
 refine wp_ret ?_
 exact PX.rt hS hE (.inl rfl)

theorem con_cloneI_o {xs:List Int} {lo:Nat} (hi:∀ x∈xs,I64 x) (hl:xs.length≤1000000):PX.Con Try.prog 49 [.imm 1 (xs.map encI)] [] lo (lo+1) (.own lo 1 xs.length) [(lo,some (.row 3 1 true (xs.map encI)))]:=by
 have h:=PX.clone_own (f:=49) (P:=Try.prog) (rows:=xs.map encI) (e:=3) (sz:=1) (by simp; omega) (fun r hr=>by obtain ⟨x,_,rfl⟩:=List.mem_map.1 hr; exact ⟨rfl,rfl⟩) (fun ad n cp=>clone49_s xs ad n cp hl) clone49_n lo
 rwa [List.length_map] at h
theorem eq_nil55 (i:Nat) (A:Option Addr) (n c:Nat):PX.BinIs Try.prog .eql 55 (.tmp i) (.const (.slice none 0 0)) (.slice A n c) (.slice none 0 0) (.bool A.isNone):=by
 intro w
 simp [go_sem,eqGuard,Try.underlying55]
 cases A with
 | none=>exact Lib.run_eql_slice_nil w 55 74 none n c 0 0 Try.underlying55
 | some a=>exact Lib.run_eql_slice_nil w 55 74 (some a) n c 0 0 Try.underlying55

set_option maxHeartbeats 400000 in
theorem clone51_s (xs:List OpD) (ad:Addr) (n cp:Nat) (hl:xs.length≤1000000):PX.Con Try.prog 51 [(.sc ((.slice (some ad) n cp)))] [(1,.ty (.slice (some ad) n cp) (.imm 11 (xs.map encO)))] 2 100000 (.own 3 11 (xs.map encO).length) [(1,none),(3,some (.row 74 11 true (xs.map encO)))]:=by
 refine PX.con_intro [(.sc ((.slice (some ad) n cp)))] 8 Try.func51 rfl rfl (by kernel_rfl) (by kernel_rfl) ?_
 intro E a hE hS
 generalize E.w0=w at hS ⊢
 have mix:=mixed
 refine PX.G [] [] 2 [] [] [.au] [0] [1] hS hE trivial fun a w hS=>?_
 refine wp_seq_k fun K1 hK1=>?_
 refine PX.G [(.e 4 (.sc (.bool false)))] [] 2 [.q (PX.BinIs Try.prog .eql 55 (.tmp 3) (.const (.slice none 0 0)) (.slice (some ad) n cp) (.slice none 0 0) (.bool false))] [] [.au,.bs (.bool false)] [0,4] [1] hS hE ⟨eq_nil55 _ _ _ _,trivial⟩ fun a w hS=>?_
 refine PX.cond_s false hS (by kernel_rfl) (fun h2=>nomatch h2) (fun h2=>?_)
 refine wp_skip ?_
 refine hK1 _ _ ?_
 replace hS:=PX.sl [0,4] (PX.reslot_g (t:=0) (g:=1) hS rfl rfl)
 refine PX.G [(.e 2 (.own 3 11 (0+(xs.map encO).length)))] [(3,.row 74 11 true (xs.map encO))] 4 [.b (lenIs 0 ([])),.b true,.b (Nat.ble (0+(xs.map encO).length) 1000000000)] [] [.au,.au,.au,.au] [0,2] [1,3] hS hE ⟨rfl,rfl,by simp; omega,trivial⟩ fun a w hS=>?_
 refine wp_ret ?_
 rw [show (.own 3 11 (xs.map encO).length)=((.own 3 11 (0+(xs.map encO).length)):PX.PV) from by congr 1; simp]
 exact PX.rt hS hE (.inl rfl)

set_option maxHeartbeats 400000 in
theorem clone51_n  : PX.Con Try.prog 51 [(.sc (.slice none 0 0))] [] 1 100000 (.sc (.slice none 0 0)) []:=by
 refine PX.con_intro [(.sc (.slice none 0 0))] 8 Try.func51 rfl rfl (by kernel_rfl) (by kernel_rfl) ?_
 intro E a hE hS
 generalize E.w0=w at hS ⊢
 have mix:=mixed
 refine PX.G [] [] 1 [] [] [.au] [0] [] hS hE trivial fun a w hS=>?_
 refine wp_seq_k fun K1 hK1=>?_
 refine PX.G [(.e 4 (.sc (.bool true)))] [] 1 [.q (PX.BinIs Try.prog .eql 55 (.tmp 3) (.const (.slice none 0 0)) (.slice none 0 0) (.slice none 0 0) (.bool true))] [] [.au,.bs (.bool true)] [0,4] [] hS hE ⟨eq_nil55 _ _ _ _,trivial⟩ fun a w hS=>?_
 refine PX.cond_s true hS (by kernel_rfl) (fun h2=>?_) (fun h2=>nomatch h2)
 refine PX.G [(.e 2 (.sc (.slice none 0 0)))] [] 1 [] [] [.au] [2] [] hS hE trivial fun a w hS=>?_
 refine wp_ret ?_
 exact PX.rt hS hE (.inl rfl)

theorem con_cloneP_o {xs:List OpD} {lo:Nat} (hi:∀ x∈xs,OpI x) (hl:xs.length≤1000000):PX.Con Try.prog 51 [.imm 11 (xs.map encO)] [] lo (lo+1) (.own lo 11 xs.length) [(lo,some (.row 74 11 true (xs.map encO)))]:=by
 have h:=PX.clone_own (f:=51) (P:=Try.prog) (rows:=xs.map encO) (e:=74) (sz:=11) (by simp; omega) (fun r hr=>by obtain ⟨x,_,rfl⟩:=List.mem_map.1 hr; exact ⟨rfl,rfl⟩) (fun ad n cp=>clone51_s xs ad n cp hl) clone51_n lo
 rwa [List.length_map] at h
end Go.Proofs.Ytlkcidmmpeebeaa

/- Proved: the contracts that all laws share: the two checks of a function's code,its operations counted,the comparison of two codes. -/
namespace Go.Proofs.Ytlkcidmmpeebeaa
open Go.RowKit Go.PX
section
variable {lo top:Nat} {c:CodeD}
theorem con_check (hi:CodeI c):Con Try.prog 46 [codeP c] [] lo top (.sc (.int .i64 (P.check c (totW c.blocks)))) []:=con_len fun hl=>PX.con_any (con_f46 c hl)
theorem con_rcheck (hi:CodeI c):Con Try.prog 18 [codeP c] [] lo top (.sc (.int .i64 (R.check c (totW c.blocks)))) []:=con_len fun hl=>PX.con_any (con_f18 c hl)
theorem con_ops (hi:CodeI c):Con Try.prog 45 [codeP c] [] lo top (.sc (.int .i64 (totW c.blocks))) []:=con_len fun hl=>PX.con_any (con_o45 c hl.blocks)
theorem con_same (hi:CodeI c):Con Try.prog 16 [codeP c,codeP c] [] lo top (.sc (.bool true)) []:=con_len fun hl=>PX.con_any (con_s16 c hl)
end
end Go.Proofs.Ytlkcidmmpeebeaa

/- Proved: what a check that is passed bounds. -/
namespace Go.Proofs.Ytlkcidmmpeebeaa
open Go.RowKit Go.PX
theorem fold_mono:∀ (l:List BlockD) (n:Int),0≤n→n+l.length*140737488351232≤9223372036854775807→(∀ b∈l,b.ops.length≤140737488351232)→n≤l.foldl (fun n b=>IntKind.i64.wrap (n+(b.ops.length:Int))) n∧∀ b∈l,(b.ops.length:Int)≤l.foldl (fun n b=>IntKind.i64.wrap (n+(b.ops.length:Int))) n
  | [],n,_,_,_=>⟨Int.le_refl _,fun b hb=>by cases hb⟩
  | x::l,n,h0,hn,hb=>by
    have hx:=hb x (by simp)
    simp only [List.length_cons] at hn
    have e:IntKind.i64.wrap (n+(x.ops.length:Int))=n+x.ops.length:=by
      have:=SX.wrap_ok (z:=n+(x.ops.length:Int)) (by omega)
      injection this
    simp only [List.foldl_cons,e]
    obtain ⟨h1,h2⟩:=fold_mono l (n+x.ops.length) (by omega) (by omega) (fun b hb'=>hb b (by simp [hb']))
    refine ⟨by omega,fun b hb'=>?_⟩
    rcases List.mem_cons.1 hb' with rfl | hb'
    · omega
    · exact h2 b hb'
theorem edge_len {c:CodeD} {blk more:Int} {args all:List Int} (hm:0≤more) (hp:∀ b∈c.blocks,b.params≤999) (h:R.edge c blk args all more=true):args.length≤999:=by
  unfold R.edge at h
  split at h
  · cases h
  · rename_i q
    simp only [Bool.or_eq_true,decide_eq_true_eq,not_or,bne_iff_ne,ne_eq,Classical.not_not] at q
    have:R.paramsAt c blk≤999:=by
      unfold R.paramsAt
      cases hb:c.blocks[blk.toNat]? with
      | none=>simp
      | some b=>simpa using hp b (List.mem_of_getElem? hb)
    omega
theorem none_len {blk:Int} {args:List Int} (h:R.none_ blk args=true):args.length≤999:=by
  unfold R.none_ at h
  simp only [Bool.and_eq_true,beq_iff_eq] at h
  omega
theorem term_len {c:CodeD} {b:BlockD} (hp:∀ b∈c.blocks,b.params≤999) (h:R.term c b=true):b.term.args.length≤4∧b.term.args0.length≤999∧b.term.args1.length≤999:=by
  unfold R.term at h
  simp only at h
  split at h
  · cases h
  rename_i q0
  split at h
  · cases h
  have hargs:b.term.args.length≤4:=by
    simp only [Bool.or_eq_true,Bool.and_eq_true,not_or,not_and,decide_eq_true_eq,Bool.not_eq_true',Bool.or_eq_false_iff,beq_eq_false_iff_ne] at q0
    by_cases h3:b.term.kind=3
    · have:=(q0.2 (Or.inl (by simpa using h3))); omega
    · by_cases h6:b.term.kind=6
      · have:=(q0.2 (Or.inr (by simpa using h6))); omega
      · have:=(q0.1.2 ⟨h3,h6⟩); omega
  refine ⟨hargs,?_⟩
  split at h
  · simp only [Bool.and_eq_true] at h; exact ⟨edge_len (Int.le_refl _) hp h.1,none_len h.2⟩
  split at h
  · simp only [Bool.and_eq_true] at h; exact ⟨edge_len (Int.le_refl _) hp h.1,edge_len (Int.le_refl _) hp h.2⟩
  split at h
  · simp only [Bool.and_eq_true,Bool.or_eq_true] at h
    refine ⟨edge_len (by decide) hp h.1,?_⟩
    rcases h.2 with h | h
    · exact none_len h
    · exact edge_len (by decide) hp h
  split at h
  · simp only [Bool.and_eq_true] at h; exact ⟨none_len h.1,none_len h.2⟩
  · cases h
/-- what a check that is passed bounds -/
structure Fit (c:CodeD):Prop where
  blocks:c.blocks.length≤400
  ctx:c.contexts.length≤64
  obj:c.objects.length≤64
  ops:∀ b∈c.blocks,b.ops.length≤6000
  term:∀ b∈c.blocks,b.term.args.length≤4∧b.term.args0.length≤999∧b.term.args1.length≤999
theorem fit_of {c:CodeD} (hi:CodeI c) (h:R.check c (totW c.blocks)=0):Fit c:=by
  unfold R.check at h
  split at h
  · cases h
  rename_i q
  simp only [Bool.or_eq_true,decide_eq_true_eq,not_or,Nat.not_lt] at q
  split at h
  · cases h
  split at h
  · rename_i q2
    have hb:c.blocks.length≤400:=by omega
    have hall:=List.all_eq_true.1 q2
    have hp:∀ b∈c.blocks,b.params≤999:=fun b hb'=>by
      have:=hall b hb'
      simp only [Bool.and_eq_true,Bool.not_eq_true',Bool.or_eq_false_iff,decide_eq_false_iff_not] at this
      omega
    refine ⟨hb,by omega,by omega,fun b hb'=>?_,fun b hb'=>?_⟩
    · have:=(fold_mono c.blocks 0 (Int.le_refl _) (by omega) (fun b hb'=>(hi.2.1 b hb').2.2.2.2.2)).2 b hb'
      have h2:totW c.blocks≤6000:=by omega
      unfold totW at h2
      omega
    · have:=hall b hb'
      simp only [Bool.and_eq_true] at this
      exact term_len hp this.2
  · cases h
end Go.Proofs.Ytlkcidmmpeebeaa
