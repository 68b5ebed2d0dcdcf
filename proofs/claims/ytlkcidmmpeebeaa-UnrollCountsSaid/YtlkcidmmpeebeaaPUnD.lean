/- Proved: the number of operations -/
import Derived.Test.YtlkcidmmpeebeaaPUnC
set_option linter.unusedVariables false
set_option linter.unusedSimpArgs false
namespace Go.Proofs.Ytlkcidmmpeebeaa
open Go.RowKit Go.PX
set_option maxRecDepth 100000
set_option maxHeartbeats 400000 in
theorem con_f100 (p:Int) (bl:List BlockD) (r2 r3:List (List PX.PV)) (hl:bl.length≤140737488351232):PX.Con Try.prog 100 [(.agg [(.J p),(.imm 10 (bl.map encB)),(.imm 3 r2),(.imm 3 r3)])] [] 1 100000 (.sc (.I (totW bl))) []:=by
 refine PX.con_intro [(.agg [(.J p),(.imm 10 (bl.map encB)),(.imm 3 r2),(.imm 3 r3)])] 20 Try.func100 rfl rfl (by kernel_rfl) (by kernel_rfl) ?_
 intro E a hE hS
 generalize E.w0=w at hS ⊢
 have mix:=mixed
 refine PX.G [(.e 1 (.ptr 1 0))] [(1,.box 26 [(.J p),(.imm 10 (bl.map encB)),(.imm 3 r2),(.imm 3 r3)])] 2 [] [] [.au,.au] [1] [1] hS hE trivial fun a w hS=>?_
 refine PX.G [(.e 3 (.J 0))] [] 2 [] [] [.au] [1,3] [1] hS hE trivial fun a w hS=>?_
 refine wp_seq_k fun K1 hK1=>?_
 refine PX.G [(.e 7 (.imm 10 (bl.map encB))),(.e 8 (.sc (.I (bl.length:Int)))),(.e 9 (.J 0))] [] 2 [.q ((.sc (.I (((bl.map encB).length:Nat):Int)):PX.PV)=(.sc (.I (bl.length:Int))))] [] [.au,.au,.nm (.sc (.I (bl.length:Int))),.au] [3,7,8,9] [] hS hE ⟨PX.nm_len (by simp),trivial⟩ fun a w hS=>?_
 refine wp_block ?_
 refine wp_loop_ghost (fun m2 a' w'=>∃ k:Nat,m2=bl.length-k∧k≤bl.length∧True∧PX.Sat E 20 [(.e 3 (.sc (.I (totW (bl.take (k)))))),(.e 7 (.imm 10 (bl.map encB))),(.e 8 (.sc (.I (bl.length:Int)))),(.e 9 (.sc (.I (k:Int))))] [] 1 a' w') (bl.length-0) ⟨0,rfl,Nat.zero_le _,trivial,(PX.canon [] _ _ 1 hS hE (by kernel_rfl) (by kernel_rfl) (by kernel_rfl))⟩ ?_
 clear hS; rintro m2 a w ⟨k,hm2,hlek,hIk,hS⟩
 refine PX.G [(.e 10 (.sc (.bool (decide ((k:Int)<(bl.length:Int))))))] [] 1 [] [] [.au] [3,7,8,9,10] [] hS hE trivial fun a w hS=>?_
 refine wp_seq_k fun K3 hK3=>?_
 refine PX.cond_s (decide ((k:Int)<(bl.length:Int))) hS (by kernel_rfl) (fun h4=>?_) (fun h4=>?_)
 ·skip
  refine wp_skip ?_
  refine hK3 _ _ ?_
  refine wp_seq_k fun K5 hK5=>?_
  refine wp_block ?_
  have hlty:k<bl.length:=by simpa using h4
  obtain ⟨y,hy⟩:=get_of_lt hlty
  refine PX.G [(.e 5 (.ptr 1 0))] [(1,.box 62 (encB y))] 2 [.q ((k:Int)=(k:Int)),.q ((bl.map encB)[k]?=some (encB y))] [] [.ix k (encB y),.au,.au,.au] [3,5,7,8,9] [1] hS hE ⟨rfl,PX.map_get hy,trivial⟩ fun a w hS=>?_
  refine PX.G0 [(.e 3 (.sc (.I (totW (bl.take (k+1))))))] [] 2 [.q ((.sc (.I (((y.ops.map encO).length:Nat):Int)):PX.PV)=(.sc (.I (y.ops.length:Int)))),.q ((.sc (.I (IntKind.i64.wrap ((totW (bl.take (k)))+(y.ops.length:Int)))):PX.PV)=(.sc (.I (totW (bl.take (k+1))))))] [] [.au,.au,.au,.nm (.sc (.I (y.ops.length:Int))),.nm (.sc (.I (totW (bl.take (k+1))))),.au] [3,7,8,9] [] hS hE ⟨PX.nm_len (by simp),PX.nm_int ((totW_step hy).symm),trivial⟩ fun a w hS=>?_
  refine hK5 _ _ ?_
  refine PX.G0 [(.e 9 (.sc (.I ((k+1:Nat):Int))))] [] 2 [.q ((.sc (.I (IntKind.i64.wrap ((k:Int)+1))):PX.PV)=(.sc (.I ((k+1:Nat):Int))))] [] [.nm (.sc (.I ((k+1:Nat):Int))),.au] [3,7,8,9] [] hS hE ⟨PX.nm_int (by rw [IntWalk.i64_in _ (by omega)]; omega),trivial⟩ fun a w hS=>?_
  exact ⟨bl.length-(k+1),by omega,k+1,rfl,by omega,trivial,(PX.canon [] _ _ 1 hS hE (by kernel_rfl) (by kernel_rfl) (by kernel_rfl))⟩
 ·skip
  refine wp_exit ?_
  refine hK1 _ _ ?_
  refine PX.G [(.e 2 (.sc (.I (totW (bl.take (k))))))] [] 1 [] [] [.au,.au] [2] [] hS hE trivial fun a w hS=>?_
  refine wp_ret ?_
  try simp only [Exit.then,Exit.inBlock,Nat.reduceEqDiff,↓reduceIte]
  rw [show (.sc (.I (totW bl)))=((.sc (.I (totW (bl.take (k))))):PX.PV) from by rw [List.take_of_length_le (le_of_dec h4)]]
  exact PX.ret_s hS hE (by kernel_rfl) (by kernel_rfl) (by kernel_rfl) (.inl rfl)
end Go.Proofs.Ytlkcidmmpeebeaa
