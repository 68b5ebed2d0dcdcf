/- Proved: Small on plain data -/
import Derived.Test.YtlkcidmmpeebeaaCkD
set_option linter.unusedVariables false
set_option linter.unusedSimpArgs false
namespace Go.Proofs.Ytlkcidmmpeebeaa
open Go.RowKit Go.PX
set_option maxRecDepth 100000
def smallStep (z:Int) (b:BlockD):Int:=IntKind.i64.wrap (IntKind.i64.wrap (IntKind.i64.wrap (IntKind.i64.wrap (z+4)+(b.term.args.length:Int))+(b.term.args0.length:Int))+(b.term.args1.length:Int))
def small0 (c:CodeD):Int:=IntKind.i64.wrap (IntKind.i64.wrap ((c.contexts.length:Int)+(c.objects.length:Int))+totW c.blocks)
def smallZ (c:CodeD) (k:Nat):Int:=(c.blocks.take k).foldl smallStep (small0 c)
def smallD (c:CodeD):Bool:=c.blocks.all (fun b=>!decide ((100:Int)<b.params))&&decide (smallZ c c.blocks.length≤600)
theorem smallZ_step {c:CodeD} {k:Nat} {y:BlockD} (hy:c.blocks[k]?=some y):smallZ c (k+1)=smallStep (smallZ c k) y:=by
 unfold smallZ
 rw [List.take_add_one,hy,List.foldl_append]; rfl

set_option maxHeartbeats 1000000 in
theorem small_con (c:CodeD) (hi:CodeI c) (hlen:c.blocks.length≤140737488351232):PX.Con Try.prog 13 [(codeP c)] [] 1 100000 (.sc (.bool (smallD c))) []:=by
 refine PX.con_intro [(codeP c)] 50 Try.func13 rfl rfl (by kernel_rfl) (by kernel_rfl) ?_
 intro E a hE hS
 generalize E.w0=w at hS ⊢
 have mix:=mixed
 refine PX.G [(.e 1 (.ptr 1 0))] [(1,.box 26 (codeL c))] 2 [] [] [.au,.au] [1] [1] hS hE trivial fun a w hS=>?_
 refine PX.D [(.e 3 (.sc (.I (IntKind.i64.wrap ((IntKind.i64.wrap ((c.contexts.length:Int)+(c.objects.length:Int)))+(totW c.blocks))))))] [] 2 [.q ((.sc (.I (((c.contexts.map encR).length:Nat):Int)):PX.PV)=(.sc (.I (c.contexts.length:Int)))),.q ((.sc (.I (((c.objects.map encR).length:Nat):Int)):PX.PV)=(.sc (.I (c.objects.length:Int)))),.q (PX.Con Try.prog 45 [(codeP c)] [] 2 2 (.sc (.I (totW c.blocks))) [])] [] [.au,.au,.nm (.sc (.I (c.contexts.length:Int))),.au,.au,.nm (.sc (.I (c.objects.length:Int))),.au,.au,.cl [] (.sc (.I (totW c.blocks))) [] 2,.au,.au] [1,3] [1] hS mixed hE ⟨PX.nm_len (by simp),PX.nm_len (by simp),con_ops hi,trivial⟩ fun a w hS=>?_
 refine wp_seq_k fun K1 hK1=>?_
 refine PX.G [(.e 17 (.imm 10 (c.blocks.map encB))),(.e 18 (.sc (.I (c.blocks.length:Int)))),(.e 19 (.J 0))] [] 2 [.q ((.sc (.I (((c.blocks.map encB).length:Nat):Int)):PX.PV)=(.sc (.I (c.blocks.length:Int))))] [] [.au,.au,.nm (.sc (.I (c.blocks.length:Int))),.au] [3,17,18,19] [] hS hE ⟨PX.nm_len (by simp),trivial⟩ fun a w hS=>?_
 refine wp_block ?_
 refine wp_loop_ghost (fun m2 a' w'=>∃ k:Nat,m2=c.blocks.length-k∧k≤c.blocks.length∧Upto c.blocks (fun _ b=>!decide ((100:Int)<b.params)) (k)∧PX.Sat E 50 [(.e 3 (.sc (.I (smallZ c (k))))),(.e 17 (.imm 10 (c.blocks.map encB))),(.e 18 (.sc (.I (c.blocks.length:Int)))),(.e 19 (.sc (.I (k:Int))))] [] 1 a' w') (c.blocks.length-0) ⟨0,rfl,Nat.zero_le _,Upto.zero,(PX.cn [] _ _ 1 hS hE)⟩ ?_
 clear hS; rintro m2 a w ⟨k,hm2,hlek,hIk,hS⟩
 refine PX.G [(.e 20 (.sc (.bool (decide ((k:Int)<(c.blocks.length:Int))))))] [] 1 [] [] [.au] [3,17,18,19,20] [] hS hE trivial fun a w hS=>?_
 refine wp_seq_k fun K3 hK3=>?_
 refine PX.cond_s (decide ((k:Int)<(c.blocks.length:Int))) hS (by kernel_rfl) (fun h4=>?_) (fun h4=>?_)
 ·skip
  refine wp_skip ?_
  refine hK3 _ _ ?_
  refine wp_seq_k fun K5 hK5=>?_
  refine wp_block ?_
  have hlty:k<c.blocks.length:=by simpa using h4
  obtain ⟨y,hy⟩:=get_of_lt hlty
  refine PX.G [(.e 5 (.ptr 1 0))] [(1,.box 62 (encB y))] 2 [.q ((k:Int)=(k:Int)),.q ((c.blocks.map encB)[k]?=some (encB y))] [] [.ix k (encB y),.au,.au,.au] [3,5,17,18,19] [1] hS hE ⟨rfl,PX.map_get hy,trivial⟩ fun a w hS=>?_
  refine PX.G [(.e 3 (.sc (.I (IntKind.i64.wrap ((IntKind.i64.wrap ((IntKind.i64.wrap ((IntKind.i64.wrap ((smallZ c (k))+4))+(y.term.args.length:Int)))+(y.term.args0.length:Int)))+(y.term.args1.length:Int))))))] [] 2 [.q ((.sc (.I (((y.term.args.map encI).length:Nat):Int)):PX.PV)=(.sc (.I (y.term.args.length:Int)))),.q ((.sc (.I (((y.term.args0.map encI).length:Nat):Int)):PX.PV)=(.sc (.I (y.term.args0.length:Int)))),.q ((.sc (.I (((y.term.args1.map encI).length:Nat):Int)):PX.PV)=(.sc (.I (y.term.args1.length:Int))))] [] [.au,.au,.au,.au,.au,.nm (.sc (.I (y.term.args.length:Int))),.au,.au,.au,.au,.au,.au,.nm (.sc (.I (y.term.args0.length:Int))),.au,.au,.au,.au,.au,.au,.nm (.sc (.I (y.term.args1.length:Int))),.au,.au] [3,5,17,18,19] [1] hS hE ⟨PX.nm_len (by simp),PX.nm_len (by simp),PX.nm_len (by simp),trivial⟩ fun a w hS=>?_
  refine PX.G [(.e 46 (.sc (.bool (decide (100<y.params)))))] [] 2 [] [] [.au,.au,.au] [3,17,18,19,46] [] hS hE trivial fun a w hS=>?_
  refine PX.cond_s (decide (100<y.params)) hS (by kernel_rfl) (fun h6=>?_) (fun h6=>?_)
  ·skip
   refine PX.G [(.e 2 (.sc (.bool false)))] [] 2 [] [] [.au] [2,3,17,18,19] [] hS hE trivial fun a w hS=>?_
   refine wp_ret ?_
   rw [show (.sc (.bool (smallD c)))=((.sc (.bool false)):PX.PV) from by rw [show smallD c=false from by unfold smallD; rw [← all_no hy (by rw [h6]; rfl)] <;> rfl]]
   exact PX.rt hS hE (.inl rfl)
  ·skip
   refine wp_skip ?_
   refine hK5 _ _ ?_
   refine PX.G0 [(.e 19 (.sc (.I ((k+1:Nat):Int))))] [] 2 [.q ((.sc (.I (IntKind.i64.wrap ((k:Int)+1))):PX.PV)=(.sc (.I ((k+1:Nat):Int))))] [] [.nm (.sc (.I ((k+1:Nat):Int))),.au] [3,17,18,19] [] hS hE ⟨PX.nm_int (by rw [IntWalk.i64_in _ (by omega)]; omega),trivial⟩ fun a w hS=>?_
   have e1:(IntKind.i64.wrap ((IntKind.i64.wrap ((IntKind.i64.wrap ((IntKind.i64.wrap ((smallZ c (k))+4))+(y.term.args.length:Int)))+(y.term.args0.length:Int)))+(y.term.args1.length:Int)))=smallZ c (k+1):=(smallZ_step hy).symm
   rw [e1] at hS
   exact ⟨c.blocks.length-(k+1),by omega,k+1,rfl,by omega,hIk.step hy (by rw [h6]; rfl),(PX.cn [] _ _ 1 hS hE)⟩
 ·skip
  refine wp_exit ?_
  refine hK1 _ _ ?_
  refine PX.G [(.e 2 (.sc (.bool (decide ((smallZ c (k))≤600)))))] [] 1 [] [] [.au,.au,.au] [2] [] hS hE trivial fun a w hS=>?_
  refine wp_ret ?_
  have hkk:c.blocks.length=k:=by have:=le_of_dec h4; omega
  have hsm:smallD c=decide ((smallZ c (k))≤600):=by unfold smallD; rw [← hIk.all (le_of_dec h4),hkk]; rfl
  rw [show (.sc (.bool (smallD c)))=((.sc (.bool (decide ((smallZ c (k))≤600)))):PX.PV) from by rw [hsm]]
  exact PX.rt hS hE (.inl rfl)
end Go.Proofs.Ytlkcidmmpeebeaa
