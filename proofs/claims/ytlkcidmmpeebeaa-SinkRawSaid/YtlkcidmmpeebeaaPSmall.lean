/- Proved: Small on plain data -/
import Derived.Test.YtlkcidmmpeebeaaPv2
set_option linter.unusedVariables false
set_option linter.unusedSimpArgs false
namespace Go.Proofs.Ytlkcidmmpeebeaa
open Go.RowKit Go.PX
set_option maxRecDepth 100000
def smallStep (z:Int) (b:BlockD):Int:=IntKind.i64.wrap (IntKind.i64.wrap (IntKind.i64.wrap (IntKind.i64.wrap (z+4)+((b.term.args.length:Nat):Int))+((b.term.args0.length:Nat):Int))+((b.term.args1.length:Nat):Int))
def small0 (c:CodeD):Int:=IntKind.i64.wrap (IntKind.i64.wrap (((c.contexts.length:Nat):Int)+((c.objects.length:Nat):Int))+totW c.blocks)
def smallZ (c:CodeD) (k:Nat):Int:=(c.blocks.take k).foldl smallStep (small0 c)
def smallD (c:CodeD):Bool:=c.blocks.all (fun b=>!decide ((100:Int)<b.params))&&decide (smallZ c c.blocks.length≤600)
theorem smallZ_step {c:CodeD} {k:Nat} {y:BlockD} (hy:c.blocks[k]?=some y):smallZ c (k+1)=smallStep (smallZ c k) y:=by
 unfold smallZ
 rw [List.take_add_one,hy,List.foldl_append]; rfl

set_option maxHeartbeats 1000000 in
theorem small_con (c:CodeD) (hi:CodeI c) (hlen:c.blocks.length≤140737488351232):PX.Con Try.prog 13 [(codeP c)] [] 1 100000 (.sc (.bool (smallD c))) []:=by
 refine PX.con_intro [(codeP c)] 50 Try.func13 rfl rfl (by kernel_rfl) (by kernel_rfl) ?_
 intro E a hE hS
 generalize E.w0=w at hS ⊢
 have mix:=mixed
 refine wp_seq_k fun K1 hK1=>?_
 refine PX.region_s (T:=[(.e 1 (.ptr 1 0))]) (H':=[(1,.box 26 (codeL c))]) (nx':=2) (obs:=[]) [] [.au,.au] [1] [1] hS (by kernel_rfl) (by kernel_rfl) (by kernel_rfl) (hE.le (by decide)) trivial ?_
 clear hS; intro a w hS
 refine hK1 _ _ ?_
 refine wp_seq_k fun K2 hK2=>?_
 refine PX.region_a (T:=[(.e 1 (.ptr 1 0)),(.e 3 (.sc (.I (IntKind.i64.wrap ((IntKind.i64.wrap (((c.contexts.length:Nat):Int)+((c.objects.length:Nat):Int)))+(totW c.blocks))))))]) (H':=[(1,.box 26 (codeL c))]) (nx':=2) (obs:=[.q ((.sc (.I (((c.contexts.map encR).length:Nat):Int)):PX.PV)=(.sc (.I ((c.contexts.length:Nat):Int)))),.q ((.sc (.I (((c.objects.map encR).length:Nat):Int)):PX.PV)=(.sc (.I ((c.objects.length:Nat):Int)))),.q (PX.Con Try.prog 45 [(codeP c)] [] 2 2 (.sc (.I (totW c.blocks))) [])]) [] [.au,.au,.nm (.sc (.I ((c.contexts.length:Nat):Int))),.au,.au,.nm (.sc (.I ((c.objects.length:Nat):Int))),.au,.au,.cl [] (.sc (.I (totW c.blocks))) [] 2,.au,.au] [1,3] [1] hS (by kernel_rfl) mixed (by kernel_rfl) (by kernel_rfl) (hE.le (by decide)) ⟨PX.nm_len (by simp),PX.nm_len (by simp),con_ops hi,trivial⟩ ?_
 clear hS; intro a w hS
 refine hK2 _ _ ?_
 refine wp_seq_k fun K3 hK3=>?_
 refine wp_seq_k fun K4 hK4=>?_
 refine PX.region_s (T:=[(.e 3 (.sc (.I (IntKind.i64.wrap ((IntKind.i64.wrap (((c.contexts.length:Nat):Int)+((c.objects.length:Nat):Int)))+(totW c.blocks)))))),(.e 17 (.imm 10 (c.blocks.map encB))),(.e 18 (.sc (.I ((c.blocks.length:Nat):Int)))),(.e 19 (.J 0))]) (H':=[]) (nx':=2) (obs:=[.q ((.sc (.I (((c.blocks.map encB).length:Nat):Int)):PX.PV)=(.sc (.I ((c.blocks.length:Nat):Int))))]) [] [.au,.au,.nm (.sc (.I ((c.blocks.length:Nat):Int))),.au] [3,17,18,19] [] hS (by kernel_rfl) (by kernel_rfl) (by kernel_rfl) (hE.le (by decide)) ⟨PX.nm_len (by simp),trivial⟩ ?_
 clear hS; intro a w hS
 refine hK4 _ _ ?_
 refine wp_block ?_
 refine wp_loop_ghost (fun m5 a' w'=>∃ k:Nat,m5=c.blocks.length-k∧k≤c.blocks.length∧Upto c.blocks (fun _ b=>!decide ((100:Int)<b.params)) (k)∧PX.Sat E 50 [(.e 3 (.sc (.I (smallZ c (k))))),(.e 17 (.imm 10 (c.blocks.map encB))),(.e 18 (.sc (.I ((c.blocks.length:Nat):Int)))),(.e 19 (.sc (.I ((k:Nat):Int))))] [] 1 a' w') (c.blocks.length-0) ⟨0,rfl,Nat.zero_le _,Upto.zero,(PX.canon [] [(.e 3 (.sc (.I (smallZ c (0))))),(.e 17 (.imm 10 (c.blocks.map encB))),(.e 18 (.sc (.I ((c.blocks.length:Nat):Int)))),(.e 19 (.sc (.I ((0:Nat):Int))))] [] 1 hS hE (by kernel_rfl) (by kernel_rfl) (by kernel_rfl))⟩ ?_
 clear hS; rintro m5 a w ⟨k,hm5,hlek,hIk,hS⟩
 refine wp_seq_k fun K6 hK6=>?_
 refine PX.region_s (T:=[(.e 3 (.sc (.I (smallZ c (k))))),(.e 17 (.imm 10 (c.blocks.map encB))),(.e 18 (.sc (.I ((c.blocks.length:Nat):Int)))),(.e 19 (.sc (.I ((k:Nat):Int)))),(.e 20 (.sc (.bool (decide (((k:Nat):Int)<((c.blocks.length:Nat):Int))))))]) (H':=[]) (nx':=1) (obs:=[]) [] [.au] [3,17,18,19,20] [] hS (by kernel_rfl) (by kernel_rfl) (by kernel_rfl) (hE.le (by decide)) trivial ?_
 clear hS; intro a w hS
 refine hK6 _ _ ?_
 refine wp_seq_k fun K7 hK7=>?_
 refine PX.cond_s (decide (((k:Nat):Int)<((c.blocks.length:Nat):Int))) hS (by kernel_rfl) (fun h8=>?_) (fun h8=>?_)
 ·skip
  refine wp_skip ?_
  refine hK7 _ _ ?_
  refine wp_seq_k fun K9 hK9=>?_
  refine wp_block ?_
  refine wp_seq_k fun K10 hK10=>?_
  have hlty:k<c.blocks.length:=by simpa using h8
  obtain ⟨y,hy⟩:=get_of_lt hlty
  refine PX.region_s (T:=[(.e 3 (.sc (.I (smallZ c (k))))),(.e 5 (.ptr 1 0)),(.e 17 (.imm 10 (c.blocks.map encB))),(.e 18 (.sc (.I ((c.blocks.length:Nat):Int)))),(.e 19 (.sc (.I ((k:Nat):Int))))]) (H':=[(1,.box 62 (encB y))]) (nx':=2) (obs:=[.q (((k:Nat):Int)=((k:Nat):Int)),.q ((c.blocks.map encB)[k]?=some (encB y))]) [] [.ix k (encB y),.au,.au,.au] [3,5,17,18,19] [1] hS (by kernel_rfl) (by kernel_rfl) (by kernel_rfl) (hE.le (by decide)) ⟨rfl,PX.map_get hy,trivial⟩ ?_
  clear hS; intro a w hS
  refine hK10 _ _ ?_
  refine wp_seq_k fun K11 hK11=>?_
  refine PX.region_s (T:=[(.e 3 (.sc (.I (IntKind.i64.wrap ((IntKind.i64.wrap ((IntKind.i64.wrap ((IntKind.i64.wrap ((smallZ c (k))+4))+((y.term.args.length:Nat):Int)))+((y.term.args0.length:Nat):Int)))+((y.term.args1.length:Nat):Int)))))),(.e 5 (.ptr 1 0)),(.e 17 (.imm 10 (c.blocks.map encB))),(.e 18 (.sc (.I ((c.blocks.length:Nat):Int)))),(.e 19 (.sc (.I ((k:Nat):Int))))]) (H':=[(1,.box 62 (encB y))]) (nx':=2) (obs:=[.q ((.sc (.I (((y.term.args.map encI).length:Nat):Int)):PX.PV)=(.sc (.I ((y.term.args.length:Nat):Int)))),.q ((.sc (.I (((y.term.args0.map encI).length:Nat):Int)):PX.PV)=(.sc (.I ((y.term.args0.length:Nat):Int)))),.q ((.sc (.I (((y.term.args1.map encI).length:Nat):Int)):PX.PV)=(.sc (.I ((y.term.args1.length:Nat):Int))))]) [] [.au,.au,.au,.au,.au,.nm (.sc (.I ((y.term.args.length:Nat):Int))),.au,.au,.au,.au,.au,.au,.nm (.sc (.I ((y.term.args0.length:Nat):Int))),.au,.au,.au,.au,.au,.au,.nm (.sc (.I ((y.term.args1.length:Nat):Int))),.au,.au] [3,5,17,18,19] [1] hS (by kernel_rfl) (by kernel_rfl) (by kernel_rfl) (hE.le (by decide)) ⟨PX.nm_len (by simp),PX.nm_len (by simp),PX.nm_len (by simp),trivial⟩ ?_
  clear hS; intro a w hS
  refine hK11 _ _ ?_
  refine wp_seq_k fun K12 hK12=>?_
  refine PX.region_s (T:=[(.e 3 (.sc (.I (IntKind.i64.wrap ((IntKind.i64.wrap ((IntKind.i64.wrap ((IntKind.i64.wrap ((smallZ c (k))+4))+((y.term.args.length:Nat):Int)))+((y.term.args0.length:Nat):Int)))+((y.term.args1.length:Nat):Int)))))),(.e 17 (.imm 10 (c.blocks.map encB))),(.e 18 (.sc (.I ((c.blocks.length:Nat):Int)))),(.e 19 (.sc (.I ((k:Nat):Int)))),(.e 46 (.sc (.bool (decide (100<y.params)))))]) (H':=[]) (nx':=2) (obs:=[]) [] [.au,.au,.au] [3,17,18,19,46] [] hS (by kernel_rfl) (by kernel_rfl) (by kernel_rfl) (hE.le (by decide)) trivial ?_
  clear hS; intro a w hS
  refine hK12 _ _ ?_
  refine PX.cond_s (decide (100<y.params)) hS (by kernel_rfl) (fun h13=>?_) (fun h13=>?_)
  ·skip
   refine wp_seq_k fun K14 hK14=>?_
   refine PX.region_s (T:=[(.e 2 (.sc (.bool false))),(.e 3 (.sc (.I (IntKind.i64.wrap ((IntKind.i64.wrap ((IntKind.i64.wrap ((IntKind.i64.wrap ((smallZ c (k))+4))+((y.term.args.length:Nat):Int)))+((y.term.args0.length:Nat):Int)))+((y.term.args1.length:Nat):Int)))))),(.e 17 (.imm 10 (c.blocks.map encB))),(.e 18 (.sc (.I ((c.blocks.length:Nat):Int)))),(.e 19 (.sc (.I ((k:Nat):Int))))]) (H':=[]) (nx':=2) (obs:=[]) [] [.au] [2,3,17,18,19] [] hS (by kernel_rfl) (by kernel_rfl) (by kernel_rfl) (hE.le (by decide)) trivial ?_
   clear hS; intro a w hS
   refine hK14 _ _ ?_
   refine wp_ret ?_
   try simp only [Exit.then,Exit.inBlock,Nat.reduceEqDiff,↓reduceIte]
   rw [show (.sc (.bool (smallD c)))=((.sc (.bool false)):PX.PV) from by rw [show smallD c=false from by unfold smallD; rw [← all_no hy (by rw [h13]; rfl)] <;> rfl]]
   exact PX.ret_s hS hE (by kernel_rfl) (by kernel_rfl) (by kernel_rfl) (.inl rfl)
  ·skip
   refine wp_skip ?_
   refine hK9 _ _ ?_
   refine PX.region_s (T:=[(.e 3 (.sc (.I (IntKind.i64.wrap ((IntKind.i64.wrap ((IntKind.i64.wrap ((IntKind.i64.wrap ((smallZ c (k))+4))+((y.term.args.length:Nat):Int)))+((y.term.args0.length:Nat):Int)))+((y.term.args1.length:Nat):Int)))))),(.e 17 (.imm 10 (c.blocks.map encB))),(.e 18 (.sc (.I ((c.blocks.length:Nat):Int)))),(.e 19 (.sc (.I ((k+1:Nat):Int))))]) (H':=[]) (nx':=2) (obs:=[.q ((.sc (.I (IntKind.i64.wrap (((k:Nat):Int)+1))):PX.PV)=(.sc (.I ((k+1:Nat):Int))))]) [] [.nm (.sc (.I ((k+1:Nat):Int))),.au] [3,17,18,19] [] hS (by kernel_rfl) (by kernel_rfl) (by kernel_rfl) (hE.le (by decide)) ⟨PX.nm_int (by rw [IntWalk.i64_in _ (by omega)]; omega),trivial⟩ ?_
   clear hS; intro a w hS
   have e1:(IntKind.i64.wrap ((IntKind.i64.wrap ((IntKind.i64.wrap ((IntKind.i64.wrap ((smallZ c (k))+4))+((y.term.args.length:Nat):Int)))+((y.term.args0.length:Nat):Int)))+((y.term.args1.length:Nat):Int)))=smallZ c (k+1):=(smallZ_step hy).symm
   rw [e1] at hS
   exact ⟨c.blocks.length-(k+1),by omega,k+1,rfl,by omega,hIk.step hy (by rw [h13]; rfl),(PX.canon [] [(.e 3 (.sc (.I (smallZ c (k+1))))),(.e 17 (.imm 10 (c.blocks.map encB))),(.e 18 (.sc (.I ((c.blocks.length:Nat):Int)))),(.e 19 (.sc (.I ((k+1:Nat):Int))))] [] 1 hS hE (by kernel_rfl) (by kernel_rfl) (by kernel_rfl))⟩
 ·skip
  refine wp_exit ?_
  refine hK3 _ _ ?_
  refine wp_seq_k fun K15 hK15=>?_
  refine PX.region_s (T:=[(.e 2 (.sc (.bool (decide ((smallZ c (k))≤600))))),(.e 3 (.sc (.I (smallZ c (k))))),(.e 17 (.imm 10 (c.blocks.map encB))),(.e 18 (.sc (.I ((c.blocks.length:Nat):Int)))),(.e 19 (.sc (.I ((k:Nat):Int))))]) (H':=[]) (nx':=1) (obs:=[]) [] [.au,.au,.au] [2,3,17,18,19] [] hS (by kernel_rfl) (by kernel_rfl) (by kernel_rfl) (hE.le (by decide)) trivial ?_
  clear hS; intro a w hS
  refine hK15 _ _ ?_
  refine wp_ret ?_
  try simp only [Exit.then,Exit.inBlock,Nat.reduceEqDiff,↓reduceIte]
  have hkk:c.blocks.length=k:=by have:=le_of_dec h8; omega
  have hsm:smallD c=decide ((smallZ c (k))≤600):=by unfold smallD; rw [← hIk.all (le_of_dec h8),hkk]; rfl
  rw [show (.sc (.bool (smallD c)))=((.sc (.bool (decide ((smallZ c (k))≤600)))):PX.PV) from by rw [hsm]]
  exact PX.ret_s hS hE (by kernel_rfl) (by kernel_rfl) (by kernel_rfl) (.inl rfl)
end Go.Proofs.Ytlkcidmmpeebeaa
