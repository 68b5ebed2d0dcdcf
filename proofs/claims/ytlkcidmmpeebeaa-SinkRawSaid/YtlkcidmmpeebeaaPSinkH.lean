/- Proved: sink.Sink on plain data -/
import Derived.Test.YtlkcidmmpeebeaaPcG
set_option linter.unusedVariables false
set_option linter.unusedSimpArgs false
namespace Go.Proofs.Ytlkcidmmpeebeaa
open Go.RowKit Go.PX
set_option maxRecDepth 100000
set_option maxHeartbeats 1000000 in
theorem sink_con (c:CodeD) (hi:CodeI c):PX.Con Try.prog 41 [(codeP c)] [] 1 100000 (if P.check c (totW c.blocks)=0 then codeP (sinkD c) else codeP c) []:=by
 refine PX.con_intro [(codeP c)] 62 Try.func41 rfl rfl (by kernel_rfl) (by kernel_rfl) ?_
 intro E a hE hS
 generalize E.w0=w at hS ⊢
 have mix:=mixed
 refine wp_seq_k fun K1 hK1=>?_
 refine PX.region_s (T:=[(.e 1 (.ptr 1 0)),(.e 2 (.ptr 2 0))]) (H':=[(1,.box 26 (codeL c)),(2,.box 26 [(.J 0),(.sc (.slice none 0 0)),(.sc (.slice none 0 0)),(.sc (.slice none 0 0))])]) (nx':=3) (obs:=[]) [] [.au,.au] [1,2] [1,2] hS (by kernel_rfl) (by kernel_rfl) (by kernel_rfl) (hE.le (by decide)) trivial ?_
 clear hS; intro a w hS
 refine hK1 _ _ ?_
 refine wp_seq_k fun K2 hK2=>?_
 refine wp_seq_k fun K3 hK3=>?_
 refine PX.region_s (T:=[(.e 1 (.ptr 1 0)),(.e 2 (.ptr 2 0)),(.e 10 (.sc (.bool ((P.check c (totW c.blocks)) != 0))))]) (H':=[(1,.box 26 (codeL c)),(2,.box 26 [(.J 0),(.sc (.slice none 0 0)),(.sc (.slice none 0 0)),(.sc (.slice none 0 0))])]) (nx':=3) (obs:=[.q (PX.Con Try.prog 46 [(codeP c)] [] 3 3 (.sc (.I (P.check c (totW c.blocks)))) [])]) [] [.au,.cl [] (.sc (.I (P.check c (totW c.blocks)))) [] 3,.au] [1,2,10] [1,2] hS (by kernel_rfl) (by kernel_rfl) (by kernel_rfl) (hE.le (by decide)) ⟨con_check hi,trivial⟩ ?_
 clear hS; intro a w hS
 refine hK3 _ _ ?_
 refine PX.cond_s ((P.check c (totW c.blocks)) != 0) hS (by kernel_rfl) (fun h4=>?_) (fun h4=>?_)
 ·skip
  refine wp_seq_k fun K5 hK5=>?_
  refine PX.region_s (T:=[(.e 2 (.ptr 2 0))]) (H':=[(2,.box 26 (codeL c))]) (nx':=3) (obs:=[]) [] [.au,.au] [2] [2] hS (by kernel_rfl) (by kernel_rfl) (by kernel_rfl) (hE.le (by decide)) trivial ?_
  clear hS; intro a w hS
  refine hK5 _ _ ?_
  refine wp_ret ?_
  try simp only [Exit.then,Exit.inBlock,Nat.reduceEqDiff,↓reduceIte]
  rw [show (if P.check c (totW c.blocks)=0 then codeP (sinkD c) else codeP c)=((codeP c):PX.PV) from by rw [if_neg (by simpa using h4)] <;> rfl]
  exact PX.ret_s hS hE (by kernel_rfl) (by kernel_rfl) (by kernel_rfl) (.inl rfl)
 ·skip
  refine wp_skip ?_
  refine hK2 _ _ ?_
  refine wp_seq_k fun K6 hK6=>?_
  have hchk:P.check c (totW c.blocks)=0:=by simpa using h4
  have hR:R.check c (totW c.blocks)=0:=by rw [check_eq]; exact hchk
  have hfit:=fit_of hi hR
  have hfb:=hfit.blocks
  refine PX.region_a (T:=[(.e 1 (.ptr 1 0)),(.e 2 (.ptr 2 0)),(.e 3 (.ptr 3 0))]) (H':=[(1,.box 26 (codeL c)),(2,.box 26 [(.J 0),(.sc (.slice none 0 0)),(.sc (.slice none 0 0)),(.sc (.slice none 0 0))]),(3,.box 26 [(.J c.params),(.sc (.slice none 0 0)),(.imm 3 (c.contexts.map encR)),(.imm 3 (c.objects.map encR))])]) (nx':=4) (obs:=[.q (PX.Con Try.prog 47 [(.imm 3 (c.contexts.map encR))] [] 3 3 (.imm 3 (c.contexts.map encR)) []),.q (PX.Con Try.prog 48 [(.imm 3 (c.objects.map encR))] [] 3 3 (.imm 3 (c.objects.map encR)) [])]) [] [.au,.au,.au,.au,.cl [] (.imm 3 (c.contexts.map encR)) [] 3,.au,.au,.cl [] (.imm 3 (c.objects.map encR)) [] 3,.au,.au,.au] [1,2,3] [1,2,3] hS (by kernel_rfl) mixed (by kernel_rfl) (by kernel_rfl) (hE.le (by decide)) ⟨con_cloneC hi.2.2.1 (by have:=hfit.ctx; omega),con_cloneO hi.2.2.2 (by have:=hfit.obj; omega),trivial⟩ ?_
  clear hS; intro a w hS
  refine hK6 _ _ ?_
  refine wp_seq_k fun K7 hK7=>?_
  refine wp_seq_k fun K8 hK8=>?_
  refine PX.region_s (T:=[(.e 2 (.ptr 2 0)),(.e 3 (.ptr 3 0)),(.e 22 (.imm 10 (c.blocks.map encB))),(.e 23 (.sc (.I ((c.blocks.length:Nat):Int)))),(.e 24 (.J 0))]) (H':=[(2,.box 26 [(.J 0),(.sc (.slice none 0 0)),(.sc (.slice none 0 0)),(.sc (.slice none 0 0))]),(3,.box 26 [(.J c.params),(.sc (.slice none 0 0)),(.imm 3 (c.contexts.map encR)),(.imm 3 (c.objects.map encR))])]) (nx':=4) (obs:=[.q ((.sc (.I (((c.blocks.map encB).length:Nat):Int)):PX.PV)=(.sc (.I ((c.blocks.length:Nat):Int))))]) [] [.au,.au,.nm (.sc (.I ((c.blocks.length:Nat):Int))),.au] [2,3,22,23,24] [2,3] hS (by kernel_rfl) (by kernel_rfl) (by kernel_rfl) (hE.le (by decide)) ⟨PX.nm_len (by simp),trivial⟩ ?_
  clear hS; intro a w hS
  refine hK8 _ _ ?_
  refine wp_block ?_
  replace hS:=PX.recell (id:=3) (j:=1) (eb:=26) (xs:=[(.J c.params),(.sc (.slice none 0 0)),(.imm 3 (c.contexts.map encR)),(.imm 3 (c.objects.map encR))]) (.own 4 10 0) (PX.newrow 62 10 hS (hE.le (by decide))) (by kernel_rfl) (by kernel_rfl) rfl (PX.nil_own 4 10)
  refine wp_loop_ghost (fun m9 a' w'=>∃ k:Nat,m9=c.blocks.length-k∧k≤c.blocks.length∧True∧PX.Sat E 62 [(.e 2 (.ptr 2 0)),(.e 3 (.ptr 3 0)),(.e 22 (.imm 10 (c.blocks.map encB))),(.e 23 (.sc (.I ((c.blocks.length:Nat):Int)))),(.e 24 (.sc (.I ((k:Nat):Int))))] [(2,.box 26 [(.J 0),(.sc (.slice none 0 0)),(.sc (.slice none 0 0)),(.sc (.slice none 0 0))]),(3,.box 26 [(.J c.params),(.own 4 10 k),(.imm 3 (c.contexts.map encR)),(.imm 3 (c.objects.map encR))]),(4,.row 62 10 true (((c.blocks.take (k)).map sinkB).map encB))] 5 a' w') (c.blocks.length-0) ⟨0,rfl,Nat.zero_le _,trivial,(PX.canon [] [(.e 2 (.ptr 2 0)),(.e 3 (.ptr 3 0)),(.e 22 (.imm 10 (c.blocks.map encB))),(.e 23 (.sc (.I ((c.blocks.length:Nat):Int)))),(.e 24 (.sc (.I ((0:Nat):Int))))] [(2,.box 26 [(.J 0),(.sc (.slice none 0 0)),(.sc (.slice none 0 0)),(.sc (.slice none 0 0))]),(3,.box 26 [(.J c.params),(.own 4 10 0),(.imm 3 (c.contexts.map encR)),(.imm 3 (c.objects.map encR))]),(4,.row 62 10 true (((c.blocks.take (0)).map sinkB).map encB))] 5 hS hE (by kernel_rfl) (by kernel_rfl) (by kernel_rfl))⟩ ?_
  clear hS; rintro m9 a w ⟨k,hm9,hlek,hIk,hS⟩
  refine wp_seq_k fun K10 hK10=>?_
  refine PX.region_s (T:=[(.e 2 (.ptr 2 0)),(.e 3 (.ptr 3 0)),(.e 22 (.imm 10 (c.blocks.map encB))),(.e 23 (.sc (.I ((c.blocks.length:Nat):Int)))),(.e 24 (.sc (.I ((k:Nat):Int)))),(.e 25 (.sc (.bool (decide (((k:Nat):Int)<((c.blocks.length:Nat):Int))))))]) (H':=[(2,.box 26 [(.J 0),(.sc (.slice none 0 0)),(.sc (.slice none 0 0)),(.sc (.slice none 0 0))]),(3,.box 26 [(.J c.params),(.own 4 10 k),(.imm 3 (c.contexts.map encR)),(.imm 3 (c.objects.map encR))]),(4,.row 62 10 true (((c.blocks.take (k)).map sinkB).map encB))]) (nx':=5) (obs:=[]) [] [.au] [2,3,22,23,24,25] [2,3,4] hS (by kernel_rfl) (by kernel_rfl) (by kernel_rfl) (hE.le (by decide)) trivial ?_
  clear hS; intro a w hS
  refine hK10 _ _ ?_
  refine wp_seq_k fun K11 hK11=>?_
  refine PX.cond_s (decide (((k:Nat):Int)<((c.blocks.length:Nat):Int))) hS (by kernel_rfl) (fun h12=>?_) (fun h12=>?_)
  ·skip
   refine wp_skip ?_
   refine hK11 _ _ ?_
   refine wp_seq_k fun K13 hK13=>?_
   refine wp_block ?_
   refine wp_seq_k fun K14 hK14=>?_
   have hlty:k<c.blocks.length:=by simpa using h12
   obtain ⟨y,hy⟩:=get_of_lt hlty
   have hym:=List.mem_of_getElem? hy; have hyI:=hi.2.1 y hym; have hyF:=hfit.term y hym; have hyO:=hfit.ops y hym
   refine PX.region_s (T:=[(.e 2 (.ptr 2 0)),(.e 3 (.ptr 3 0)),(.e 5 (.ptr 5 0)),(.e 22 (.imm 10 (c.blocks.map encB))),(.e 23 (.sc (.I ((c.blocks.length:Nat):Int)))),(.e 24 (.sc (.I ((k:Nat):Int))))]) (H':=[(2,.box 26 [(.J 0),(.sc (.slice none 0 0)),(.sc (.slice none 0 0)),(.sc (.slice none 0 0))]),(3,.box 26 [(.J c.params),(.own 4 10 k),(.imm 3 (c.contexts.map encR)),(.imm 3 (c.objects.map encR))]),(4,.row 62 10 true (((c.blocks.take (k)).map sinkB).map encB)),(5,.box 62 (encB y))]) (nx':=6) (obs:=[.q (((k:Nat):Int)=((k:Nat):Int)),.q ((c.blocks.map encB)[k]?=some (encB y))]) [] [.ix k (encB y),.au,.au,.au] [2,3,5,22,23,24] [2,3,4,5] hS (by kernel_rfl) (by kernel_rfl) (by kernel_rfl) (hE.le (by decide)) ⟨rfl,PX.map_get hy,trivial⟩ ?_
   clear hS; intro a w hS
   refine hK14 _ _ ?_
   refine wp_seq_k fun K15 hK15=>?_
   refine PX.region_s (T:=[(.e 2 (.ptr 2 0)),(.e 3 (.ptr 3 0)),(.e 5 (.ptr 5 0)),(.e 6 (.ptr 6 0)),(.e 22 (.imm 10 (c.blocks.map encB))),(.e 23 (.sc (.I ((c.blocks.length:Nat):Int)))),(.e 24 (.sc (.I ((k:Nat):Int))))]) (H':=[(2,.box 26 [(.J 0),(.sc (.slice none 0 0)),(.sc (.slice none 0 0)),(.sc (.slice none 0 0))]),(3,.box 26 [(.J c.params),(.own 4 10 k),(.imm 3 (c.contexts.map encR)),(.imm 3 (c.objects.map encR))]),(4,.row 62 10 true (((c.blocks.take (k)).map sinkB).map encB)),(5,.box 62 (encB y)),(6,.box 60 [(.J y.term.kind),(.J y.term.a),(.J y.term.n),(.imm 1 (y.term.args.map encI)),(.J y.term.b0),(.imm 1 (y.term.args0.map encI)),(.J y.term.b1),(.imm 1 (y.term.args1.map encI))])]) (nx':=7) (obs:=[]) [] [.au,.au,.au,.au] [2,3,5,6,22,23,24] [2,3,4,5,6] hS (by kernel_rfl) (by kernel_rfl) (by kernel_rfl) (hE.le (by decide)) trivial ?_
   clear hS; intro a w hS
   refine hK15 _ _ ?_
   refine wp_seq_k fun K16 hK16=>?_
   refine PX.region_s (T:=[(.e 2 (.ptr 2 0)),(.e 3 (.ptr 3 0)),(.e 5 (.ptr 5 0)),(.e 6 (.ptr 6 0)),(.e 22 (.imm 10 (c.blocks.map encB))),(.e 23 (.sc (.I ((c.blocks.length:Nat):Int)))),(.e 24 (.sc (.I ((k:Nat):Int))))]) (H':=[(2,.box 26 [(.J 0),(.sc (.slice none 0 0)),(.sc (.slice none 0 0)),(.sc (.slice none 0 0))]),(3,.box 26 [(.J c.params),(.own 4 10 k),(.imm 3 (c.contexts.map encR)),(.imm 3 (c.objects.map encR))]),(4,.row 62 10 true (((c.blocks.take (k)).map sinkB).map encB)),(5,.box 62 (encB y)),(6,.box 60 [(.J y.term.kind),(.J y.term.a),(.J y.term.n),(.imm 1 (y.term.args.map encI)),(.J y.term.b0),(.imm 1 (y.term.args0.map encI)),(.J y.term.b1),(.imm 1 (y.term.args1.map encI))])]) (nx':=7) (obs:=[.q (PX.Con Try.prog 49 [(.imm 1 (y.term.args.map encI))] [] 7 7 (.imm 1 (y.term.args.map encI)) [])]) [] [.au,.au,.cl [] (.imm 1 (y.term.args.map encI)) [] 7,.au,.au] [2,3,5,6,22,23,24] [2,3,4,5,6] hS (by kernel_rfl) (by kernel_rfl) (by kernel_rfl) (hE.le (by decide)) ⟨con_cloneI hyI.2.2.1 (by omega),trivial⟩ ?_
   clear hS; intro a w hS
   refine hK16 _ _ ?_
   refine wp_seq_k fun K17 hK17=>?_
   refine wp_seq_k fun K18 hK18=>?_
   refine PX.region_s (T:=[(.e 2 (.ptr 2 0)),(.e 3 (.ptr 3 0)),(.e 5 (.ptr 5 0)),(.e 6 (.ptr 6 0)),(.e 22 (.imm 10 (c.blocks.map encB))),(.e 23 (.sc (.I ((c.blocks.length:Nat):Int)))),(.e 24 (.sc (.I ((k:Nat):Int)))),(.e 34 (.J 0))]) (H':=[(2,.box 26 [(.J 0),(.sc (.slice none 0 0)),(.sc (.slice none 0 0)),(.sc (.slice none 0 0))]),(3,.box 26 [(.J c.params),(.own 4 10 k),(.imm 3 (c.contexts.map encR)),(.imm 3 (c.objects.map encR))]),(4,.row 62 10 true (((c.blocks.take (k)).map sinkB).map encB)),(5,.box 62 (encB y)),(6,.box 60 [(.J y.term.kind),(.J y.term.a),(.J y.term.n),(.imm 1 (y.term.args.map encI)),(.J y.term.b0),(.imm 1 (y.term.args0.map encI)),(.J y.term.b1),(.imm 1 (y.term.args1.map encI))])]) (nx':=7) (obs:=[]) [] [.au] [2,3,5,6,22,23,24,34] [2,3,4,5,6] hS (by kernel_rfl) (by kernel_rfl) (by kernel_rfl) (hE.le (by decide)) trivial ?_
   clear hS; intro a w hS
   refine hK18 _ _ ?_
   refine wp_block ?_
   refine wp_loop_rounds 3 ?_
   rw [rounds_succ]
   refine wp_seq_k fun K19 hK19=>?_
   refine PX.region_s (T:=[(.e 2 (.ptr 2 0)),(.e 3 (.ptr 3 0)),(.e 5 (.ptr 5 0)),(.e 6 (.ptr 6 0)),(.e 22 (.imm 10 (c.blocks.map encB))),(.e 23 (.sc (.I ((c.blocks.length:Nat):Int)))),(.e 24 (.sc (.I ((k:Nat):Int)))),(.e 34 (.J 0)),(.e 35 (.sc (.bool true)))]) (H':=[(2,.box 26 [(.J 0),(.sc (.slice none 0 0)),(.sc (.slice none 0 0)),(.sc (.slice none 0 0))]),(3,.box 26 [(.J c.params),(.own 4 10 k),(.imm 3 (c.contexts.map encR)),(.imm 3 (c.objects.map encR))]),(4,.row 62 10 true (((c.blocks.take (k)).map sinkB).map encB)),(5,.box 62 (encB y)),(6,.box 60 [(.J y.term.kind),(.J y.term.a),(.J y.term.n),(.imm 1 (y.term.args.map encI)),(.J y.term.b0),(.imm 1 (y.term.args0.map encI)),(.J y.term.b1),(.imm 1 (y.term.args1.map encI))])]) (nx':=7) (obs:=[]) [] [.au] [2,3,5,6,22,23,24,34,35] [2,3,4,5,6] hS (by kernel_rfl) (by kernel_rfl) (by kernel_rfl) (hE.le (by decide)) trivial ?_
   clear hS; intro a w hS
   refine hK19 _ _ ?_
   refine wp_seq_k fun K20 hK20=>?_
   refine PX.cond_s true hS (by kernel_rfl) (fun h21=>?_) (fun h21=>nomatch h21)
   refine wp_skip ?_
   refine hK20 _ _ ?_
   refine wp_seq_k fun K22 hK22=>?_
   refine wp_block ?_
   refine wp_seq_k fun K23 hK23=>?_
   refine PX.region_s (T:=[(.e 2 (.ptr 2 0)),(.e 3 (.ptr 3 0)),(.e 5 (.ptr 5 0)),(.e 6 (.ptr 6 0)),(.e 7 (.J 0)),(.e 22 (.imm 10 (c.blocks.map encB))),(.e 23 (.sc (.I ((c.blocks.length:Nat):Int)))),(.e 24 (.sc (.I ((k:Nat):Int)))),(.e 34 (.J 0)),(.e 35 (.sc (.bool true))),(.e 36 (.J 0))]) (H':=[(2,.box 26 [(.J 0),(.sc (.slice none 0 0)),(.sc (.slice none 0 0)),(.sc (.slice none 0 0))]),(3,.box 26 [(.J c.params),(.own 4 10 k),(.imm 3 (c.contexts.map encR)),(.imm 3 (c.objects.map encR))]),(4,.row 62 10 true (((c.blocks.take (k)).map sinkB).map encB)),(5,.box 62 (encB y)),(6,.box 60 [(.J y.term.kind),(.J y.term.a),(.J y.term.n),(.imm 1 (y.term.args.map encI)),(.J y.term.b0),(.imm 1 (y.term.args0.map encI)),(.J y.term.b1),(.imm 1 (y.term.args1.map encI))])]) (nx':=7) (obs:=[]) [] [.au,.au] [2,3,5,6,7,22,23,24,34,35,36] [2,3,4,5,6] hS (by kernel_rfl) (by kernel_rfl) (by kernel_rfl) (hE.le (by decide)) trivial ?_
   clear hS; intro a w hS
   refine hK23 _ _ ?_
   refine PX.region_s (T:=[(.e 2 (.ptr 2 0)),(.e 3 (.ptr 3 0)),(.e 5 (.ptr 5 0)),(.e 6 (.ptr 6 0)),(.e 7 (.J 0)),(.e 22 (.imm 10 (c.blocks.map encB))),(.e 23 (.sc (.I ((c.blocks.length:Nat):Int)))),(.e 24 (.sc (.I ((k:Nat):Int)))),(.e 34 (.J 0)),(.e 35 (.sc (.bool true))),(.e 36 (.J 0)),(.e 37 (.J 0)),(.e 38 (.J 0)),(.e 39 (.ptr 6 4)),(.e 40 (.ptr 6 4)),(.e 41 (.ptr 6 5)),(.e 42 (.imm 1 (y.term.args0.map encI))),(.e 43 (.imm 1 (y.term.args0.map encI))),(.e 44 (.ptr 6 4)),(.e 45 (.ptr 6 4)),(.e 46 (.ptr 6 5))]) (H':=[(2,.box 26 [(.J 0),(.sc (.slice none 0 0)),(.sc (.slice none 0 0)),(.sc (.slice none 0 0))]),(3,.box 26 [(.J c.params),(.own 4 10 k),(.imm 3 (c.contexts.map encR)),(.imm 3 (c.objects.map encR))]),(4,.row 62 10 true (((c.blocks.take (k)).map sinkB).map encB)),(5,.box 62 (encB y)),(6,.box 60 [(.J y.term.kind),(.J y.term.a),(.J y.term.n),(.imm 1 (y.term.args.map encI)),(.J y.term.b0),(.imm 1 (y.term.args0.map encI)),(.J y.term.b1),(.imm 1 (y.term.args1.map encI))])]) (nx':=7) (obs:=[.q (PX.Con Try.prog 49 [(.imm 1 (y.term.args0.map encI))] [] 7 7 (.imm 1 (y.term.args0.map encI)) [])]) [] [.au,.au,.au,.au,.au,.au,.cl [] (.imm 1 (y.term.args0.map encI)) [] 7,.au,.au,.au,.au] [2,3,5,6,7,22,23,24,34,35,36,37,38,39,40,41,42,43,44,45,46] [2,3,4,5,6] hS (by kernel_rfl) (by kernel_rfl) (by kernel_rfl) (hE.le (by decide)) ⟨con_cloneI hyI.2.2.2.1 (by omega),trivial⟩ ?_
   clear hS; intro a w hS
   refine hK22 _ _ ?_
   refine PX.region_s (T:=[(.e 2 (.ptr 2 0)),(.e 3 (.ptr 3 0)),(.e 5 (.ptr 5 0)),(.e 6 (.ptr 6 0)),(.e 7 (.J 0)),(.e 22 (.imm 10 (c.blocks.map encB))),(.e 23 (.sc (.I ((c.blocks.length:Nat):Int)))),(.e 24 (.sc (.I ((k:Nat):Int)))),(.e 34 (.J 1)),(.e 35 (.sc (.bool true))),(.e 36 (.J 0)),(.e 37 (.J 0)),(.e 38 (.J 0)),(.e 39 (.ptr 6 4)),(.e 40 (.ptr 6 4)),(.e 41 (.ptr 6 5)),(.e 42 (.imm 1 (y.term.args0.map encI))),(.e 43 (.imm 1 (y.term.args0.map encI))),(.e 44 (.ptr 6 4)),(.e 45 (.ptr 6 4)),(.e 46 (.ptr 6 5)),(.e 47 (.J 1))]) (H':=[(2,.box 26 [(.J 0),(.sc (.slice none 0 0)),(.sc (.slice none 0 0)),(.sc (.slice none 0 0))]),(3,.box 26 [(.J c.params),(.own 4 10 k),(.imm 3 (c.contexts.map encR)),(.imm 3 (c.objects.map encR))]),(4,.row 62 10 true (((c.blocks.take (k)).map sinkB).map encB)),(5,.box 62 (encB y)),(6,.box 60 [(.J y.term.kind),(.J y.term.a),(.J y.term.n),(.imm 1 (y.term.args.map encI)),(.J y.term.b0),(.imm 1 (y.term.args0.map encI)),(.J y.term.b1),(.imm 1 (y.term.args1.map encI))])]) (nx':=7) (obs:=[]) [] [.au,.au] [2,3,5,6,7,22,23,24,34,35,36,37,38,39,40,41,42,43,44,45,46,47] [2,3,4,5,6] hS (by kernel_rfl) (by kernel_rfl) (by kernel_rfl) (hE.le (by decide)) trivial ?_
   clear hS; intro a w hS
   show Code.rounds _ _ _ 2 _ _
   rw [rounds_succ]
   refine wp_seq_k fun K24 hK24=>?_
   refine PX.region_s (T:=[(.e 2 (.ptr 2 0)),(.e 3 (.ptr 3 0)),(.e 5 (.ptr 5 0)),(.e 6 (.ptr 6 0)),(.e 7 (.J 0)),(.e 22 (.imm 10 (c.blocks.map encB))),(.e 23 (.sc (.I ((c.blocks.length:Nat):Int)))),(.e 24 (.sc (.I ((k:Nat):Int)))),(.e 34 (.J 1)),(.e 35 (.sc (.bool true))),(.e 36 (.J 0)),(.e 37 (.J 0)),(.e 38 (.J 0)),(.e 39 (.ptr 6 4)),(.e 40 (.ptr 6 4)),(.e 41 (.ptr 6 5)),(.e 42 (.imm 1 (y.term.args0.map encI))),(.e 43 (.imm 1 (y.term.args0.map encI))),(.e 44 (.ptr 6 4)),(.e 45 (.ptr 6 4)),(.e 46 (.ptr 6 5)),(.e 47 (.J 1))]) (H':=[(2,.box 26 [(.J 0),(.sc (.slice none 0 0)),(.sc (.slice none 0 0)),(.sc (.slice none 0 0))]),(3,.box 26 [(.J c.params),(.own 4 10 k),(.imm 3 (c.contexts.map encR)),(.imm 3 (c.objects.map encR))]),(4,.row 62 10 true (((c.blocks.take (k)).map sinkB).map encB)),(5,.box 62 (encB y)),(6,.box 60 [(.J y.term.kind),(.J y.term.a),(.J y.term.n),(.imm 1 (y.term.args.map encI)),(.J y.term.b0),(.imm 1 (y.term.args0.map encI)),(.J y.term.b1),(.imm 1 (y.term.args1.map encI))])]) (nx':=7) (obs:=[]) [] [.au] [2,3,5,6,7,22,23,24,34,35,36,37,38,39,40,41,42,43,44,45,46,47] [2,3,4,5,6] hS (by kernel_rfl) (by kernel_rfl) (by kernel_rfl) (hE.le (by decide)) trivial ?_
   clear hS; intro a w hS
   refine hK24 _ _ ?_
   refine wp_seq_k fun K25 hK25=>?_
   refine PX.cond_s true hS (by kernel_rfl) (fun h26=>?_) (fun h26=>nomatch h26)
   refine wp_skip ?_
   refine hK25 _ _ ?_
   refine wp_seq_k fun K27 hK27=>?_
   refine wp_block ?_
   refine wp_seq_k fun K28 hK28=>?_
   refine PX.region_s (T:=[(.e 2 (.ptr 2 0)),(.e 3 (.ptr 3 0)),(.e 5 (.ptr 5 0)),(.e 6 (.ptr 6 0)),(.e 7 (.J 1)),(.e 22 (.imm 10 (c.blocks.map encB))),(.e 23 (.sc (.I ((c.blocks.length:Nat):Int)))),(.e 24 (.sc (.I ((k:Nat):Int)))),(.e 34 (.J 1)),(.e 35 (.sc (.bool true))),(.e 36 (.J 1)),(.e 37 (.J 0)),(.e 38 (.J 0)),(.e 39 (.ptr 6 4)),(.e 40 (.ptr 6 4)),(.e 41 (.ptr 6 5)),(.e 42 (.imm 1 (y.term.args0.map encI))),(.e 43 (.imm 1 (y.term.args0.map encI))),(.e 44 (.ptr 6 4)),(.e 45 (.ptr 6 4)),(.e 46 (.ptr 6 5)),(.e 47 (.J 1))]) (H':=[(2,.box 26 [(.J 0),(.sc (.slice none 0 0)),(.sc (.slice none 0 0)),(.sc (.slice none 0 0))]),(3,.box 26 [(.J c.params),(.own 4 10 k),(.imm 3 (c.contexts.map encR)),(.imm 3 (c.objects.map encR))]),(4,.row 62 10 true (((c.blocks.take (k)).map sinkB).map encB)),(5,.box 62 (encB y)),(6,.box 60 [(.J y.term.kind),(.J y.term.a),(.J y.term.n),(.imm 1 (y.term.args.map encI)),(.J y.term.b0),(.imm 1 (y.term.args0.map encI)),(.J y.term.b1),(.imm 1 (y.term.args1.map encI))])]) (nx':=7) (obs:=[]) [] [.au,.au] [2,3,5,6,7,22,23,24,34,35,36,37,38,39,40,41,42,43,44,45,46,47] [2,3,4,5,6] hS (by kernel_rfl) (by kernel_rfl) (by kernel_rfl) (hE.le (by decide)) trivial ?_
   clear hS; intro a w hS
   refine hK28 _ _ ?_
   refine PX.region_s (T:=[(.e 2 (.ptr 2 0)),(.e 3 (.ptr 3 0)),(.e 5 (.ptr 5 0)),(.e 6 (.ptr 6 0)),(.e 7 (.J 1)),(.e 22 (.imm 10 (c.blocks.map encB))),(.e 23 (.sc (.I ((c.blocks.length:Nat):Int)))),(.e 24 (.sc (.I ((k:Nat):Int)))),(.e 34 (.J 1)),(.e 35 (.sc (.bool true))),(.e 36 (.J 1)),(.e 37 (.J 1)),(.e 38 (.J 1)),(.e 39 (.ptr 6 4)),(.e 40 (.ptr 6 6)),(.e 41 (.ptr 6 7)),(.e 42 (.imm 1 (y.term.args1.map encI))),(.e 43 (.imm 1 (y.term.args1.map encI))),(.e 44 (.ptr 6 4)),(.e 45 (.ptr 6 6)),(.e 46 (.ptr 6 7)),(.e 47 (.J 1))]) (H':=[(2,.box 26 [(.J 0),(.sc (.slice none 0 0)),(.sc (.slice none 0 0)),(.sc (.slice none 0 0))]),(3,.box 26 [(.J c.params),(.own 4 10 k),(.imm 3 (c.contexts.map encR)),(.imm 3 (c.objects.map encR))]),(4,.row 62 10 true (((c.blocks.take (k)).map sinkB).map encB)),(5,.box 62 (encB y)),(6,.box 60 [(.J y.term.kind),(.J y.term.a),(.J y.term.n),(.imm 1 (y.term.args.map encI)),(.J y.term.b0),(.imm 1 (y.term.args0.map encI)),(.J y.term.b1),(.imm 1 (y.term.args1.map encI))])]) (nx':=7) (obs:=[.q (PX.Con Try.prog 49 [(.imm 1 (y.term.args1.map encI))] [] 7 7 (.imm 1 (y.term.args1.map encI)) [])]) [] [.au,.au,.au,.au,.au,.au,.cl [] (.imm 1 (y.term.args1.map encI)) [] 7,.au,.au,.au,.au] [2,3,5,6,7,22,23,24,34,35,36,37,38,39,40,41,42,43,44,45,46,47] [2,3,4,5,6] hS (by kernel_rfl) (by kernel_rfl) (by kernel_rfl) (hE.le (by decide)) ⟨con_cloneI hyI.2.2.2.2.1 (by omega),trivial⟩ ?_
   clear hS; intro a w hS
   refine hK27 _ _ ?_
   refine PX.region_s (T:=[(.e 2 (.ptr 2 0)),(.e 3 (.ptr 3 0)),(.e 5 (.ptr 5 0)),(.e 6 (.ptr 6 0)),(.e 7 (.J 1)),(.e 22 (.imm 10 (c.blocks.map encB))),(.e 23 (.sc (.I ((c.blocks.length:Nat):Int)))),(.e 24 (.sc (.I ((k:Nat):Int)))),(.e 34 (.J 2)),(.e 35 (.sc (.bool true))),(.e 36 (.J 1)),(.e 37 (.J 1)),(.e 38 (.J 1)),(.e 39 (.ptr 6 4)),(.e 40 (.ptr 6 6)),(.e 41 (.ptr 6 7)),(.e 42 (.imm 1 (y.term.args1.map encI))),(.e 43 (.imm 1 (y.term.args1.map encI))),(.e 44 (.ptr 6 4)),(.e 45 (.ptr 6 6)),(.e 46 (.ptr 6 7)),(.e 47 (.J 2))]) (H':=[(2,.box 26 [(.J 0),(.sc (.slice none 0 0)),(.sc (.slice none 0 0)),(.sc (.slice none 0 0))]),(3,.box 26 [(.J c.params),(.own 4 10 k),(.imm 3 (c.contexts.map encR)),(.imm 3 (c.objects.map encR))]),(4,.row 62 10 true (((c.blocks.take (k)).map sinkB).map encB)),(5,.box 62 (encB y)),(6,.box 60 [(.J y.term.kind),(.J y.term.a),(.J y.term.n),(.imm 1 (y.term.args.map encI)),(.J y.term.b0),(.imm 1 (y.term.args0.map encI)),(.J y.term.b1),(.imm 1 (y.term.args1.map encI))])]) (nx':=7) (obs:=[]) [] [.au,.au] [2,3,5,6,7,22,23,24,34,35,36,37,38,39,40,41,42,43,44,45,46,47] [2,3,4,5,6] hS (by kernel_rfl) (by kernel_rfl) (by kernel_rfl) (hE.le (by decide)) trivial ?_
   clear hS; intro a w hS
   show Code.rounds _ _ _ 1 _ _
   rw [rounds_succ]
   refine wp_seq_k fun K29 hK29=>?_
   refine PX.region_s (T:=[(.e 2 (.ptr 2 0)),(.e 3 (.ptr 3 0)),(.e 5 (.ptr 5 0)),(.e 6 (.ptr 6 0)),(.e 7 (.J 1)),(.e 22 (.imm 10 (c.blocks.map encB))),(.e 23 (.sc (.I ((c.blocks.length:Nat):Int)))),(.e 24 (.sc (.I ((k:Nat):Int)))),(.e 34 (.J 2)),(.e 35 (.sc (.bool false))),(.e 36 (.J 1)),(.e 37 (.J 1)),(.e 38 (.J 1)),(.e 39 (.ptr 6 4)),(.e 40 (.ptr 6 6)),(.e 41 (.ptr 6 7)),(.e 42 (.imm 1 (y.term.args1.map encI))),(.e 43 (.imm 1 (y.term.args1.map encI))),(.e 44 (.ptr 6 4)),(.e 45 (.ptr 6 6)),(.e 46 (.ptr 6 7)),(.e 47 (.J 2))]) (H':=[(2,.box 26 [(.J 0),(.sc (.slice none 0 0)),(.sc (.slice none 0 0)),(.sc (.slice none 0 0))]),(3,.box 26 [(.J c.params),(.own 4 10 k),(.imm 3 (c.contexts.map encR)),(.imm 3 (c.objects.map encR))]),(4,.row 62 10 true (((c.blocks.take (k)).map sinkB).map encB)),(5,.box 62 (encB y)),(6,.box 60 [(.J y.term.kind),(.J y.term.a),(.J y.term.n),(.imm 1 (y.term.args.map encI)),(.J y.term.b0),(.imm 1 (y.term.args0.map encI)),(.J y.term.b1),(.imm 1 (y.term.args1.map encI))])]) (nx':=7) (obs:=[]) [] [.au] [2,3,5,6,7,22,23,24,34,35,36,37,38,39,40,41,42,43,44,45,46,47] [2,3,4,5,6] hS (by kernel_rfl) (by kernel_rfl) (by kernel_rfl) (hE.le (by decide)) trivial ?_
   clear hS; intro a w hS
   refine hK29 _ _ ?_
   refine wp_seq_k fun K30 hK30=>?_
   refine PX.cond_s false hS (by kernel_rfl) (fun h31=>nomatch h31) (fun h31=>?_)
   refine wp_exit ?_
   refine hK17 _ _ ?_
   refine PX.region_a (T:=[(.e 2 (.ptr 2 0)),(.e 3 (.ptr 3 0)),(.e 6 (.ptr 6 0)),(.e 7 (.J 1)),(.e 22 (.imm 10 (c.blocks.map encB))),(.e 23 (.sc (.I ((c.blocks.length:Nat):Int)))),(.e 24 (.sc (.I ((k:Nat):Int)))),(.e 34 (.J 2)),(.e 35 (.sc (.bool false))),(.e 36 (.J 1)),(.e 37 (.J 1)),(.e 38 (.J 1)),(.e 39 (.ptr 6 4)),(.e 40 (.ptr 6 6)),(.e 41 (.ptr 6 7)),(.e 42 (.imm 1 (y.term.args1.map encI))),(.e 43 (.imm 1 (y.term.args1.map encI))),(.e 44 (.ptr 6 4)),(.e 45 (.ptr 6 6)),(.e 46 (.ptr 6 7)),(.e 47 (.J 2))]) (H':=[(2,.box 26 [(.J 0),(.sc (.slice none 0 0)),(.sc (.slice none 0 0)),(.sc (.slice none 0 0))]),(3,.box 26 [(.J c.params),(.own 8 10 ((((c.blocks.take (k)).map sinkB).map encB:List (List PX.PV)).length+1)),(.imm 3 (c.contexts.map encR)),(.imm 3 (c.objects.map encR))]),(6,.box 60 [(.J y.term.kind),(.J y.term.a),(.J y.term.n),(.imm 1 (y.term.args.map encI)),(.J y.term.b0),(.imm 1 (y.term.args0.map encI)),(.J y.term.b1),(.imm 1 (y.term.args1.map encI))]),(8,.row 62 10 true (((c.blocks.take (k)).map sinkB).map encB++[[(.J y.params),(.imm 11 ((sinkL y.ops).map encO)),(.J y.term.kind),(.J y.term.a),(.J y.term.n),(.imm 1 (y.term.args.map encI)),(.J y.term.b0),(.imm 1 (y.term.args0.map encI)),(.J y.term.b1),(.imm 1 (y.term.args1.map encI))]]))]) (nx':=9) (obs:=[.q (PX.Con Try.prog 78 [(.imm 11 (y.ops.map encO))] [] 7 7 (.imm 11 ((sinkL y.ops).map encO)) []),.b (lenIs k (((c.blocks.take (k)).map sinkB).map encB)),.b (lenIs 1 ([[(.J y.params),(.imm 11 ((sinkL y.ops).map encO)),(.J y.term.kind),(.J y.term.a),(.J y.term.n),(.imm 1 (y.term.args.map encI)),(.J y.term.b0),(.imm 1 (y.term.args0.map encI)),(.J y.term.b1),(.imm 1 (y.term.args1.map encI))]])),.b (Nat.ble ((((c.blocks.take (k)).map sinkB).map encB:List (List PX.PV)).length+1) 1000000000)]) [] [.au,.au,.au,.au,.au,.au,.cl [] (.imm 11 ((sinkL y.ops).map encO)) [] 7,.au,.au,.au,.au,.au,.au] [2,3,6,7,22,23,24,34,35,36,37,38,39,40,41,42,43,44,45,46,47] [2,3,6,8] hS (by kernel_rfl) mixed (by kernel_rfl) (by kernel_rfl) (hE.le (by decide)) ⟨PX.con_any (order_con y.ops (by omega)),by simp [PX.lenIs]; omega,rfl,by simp; have:=hfit.blocks; omega,trivial⟩ ?_
   clear hS; intro a w hS
   refine hK13 _ _ ?_
   refine PX.region_s (T:=[(.e 2 (.ptr 2 0)),(.e 3 (.ptr 3 0)),(.e 6 (.ptr 6 0)),(.e 7 (.J 1)),(.e 22 (.imm 10 (c.blocks.map encB))),(.e 23 (.sc (.I ((c.blocks.length:Nat):Int)))),(.e 24 (.sc (.I ((k+1:Nat):Int)))),(.e 34 (.J 2)),(.e 35 (.sc (.bool false))),(.e 36 (.J 1)),(.e 37 (.J 1)),(.e 38 (.J 1)),(.e 39 (.ptr 6 4)),(.e 40 (.ptr 6 6)),(.e 41 (.ptr 6 7)),(.e 42 (.imm 1 (y.term.args1.map encI))),(.e 43 (.imm 1 (y.term.args1.map encI))),(.e 44 (.ptr 6 4)),(.e 45 (.ptr 6 6)),(.e 46 (.ptr 6 7)),(.e 47 (.J 2))]) (H':=[(2,.box 26 [(.J 0),(.sc (.slice none 0 0)),(.sc (.slice none 0 0)),(.sc (.slice none 0 0))]),(3,.box 26 [(.J c.params),(.own 8 10 ((((c.blocks.take (k)).map sinkB).map encB:List (List PX.PV)).length+1)),(.imm 3 (c.contexts.map encR)),(.imm 3 (c.objects.map encR))]),(6,.box 60 [(.J y.term.kind),(.J y.term.a),(.J y.term.n),(.imm 1 (y.term.args.map encI)),(.J y.term.b0),(.imm 1 (y.term.args0.map encI)),(.J y.term.b1),(.imm 1 (y.term.args1.map encI))]),(8,.row 62 10 true (((c.blocks.take (k)).map sinkB).map encB++[[(.J y.params),(.imm 11 ((sinkL y.ops).map encO)),(.J y.term.kind),(.J y.term.a),(.J y.term.n),(.imm 1 (y.term.args.map encI)),(.J y.term.b0),(.imm 1 (y.term.args0.map encI)),(.J y.term.b1),(.imm 1 (y.term.args1.map encI))]]))]) (nx':=9) (obs:=[.q ((.sc (.I (IntKind.i64.wrap (((k:Nat):Int)+1))):PX.PV)=(.sc (.I ((k+1:Nat):Int))))]) [] [.nm (.sc (.I ((k+1:Nat):Int))),.au] [2,3,6,7,22,23,24,34,35,36,37,38,39,40,41,42,43,44,45,46,47] [2,3,6,8] hS (by kernel_rfl) (by kernel_rfl) (by kernel_rfl) (hE.le (by decide)) ⟨PX.nm_int (by rw [IntWalk.i64_in _ (by omega)]; omega),trivial⟩ ?_
   clear hS; intro a w hS
   have e2:(((c.blocks.take (k)).map sinkB).map encB:List (List PX.PV)).length+1=k+1:=by simp; omega
   have e1:(((c.blocks.take (k)).map sinkB).map encB++[[(.J y.params),(.imm 11 ((sinkL y.ops).map encO)),(.J y.term.kind),(.J y.term.a),(.J y.term.n),(.imm 1 (y.term.args.map encI)),(.J y.term.b0),(.imm 1 (y.term.args0.map encI)),(.J y.term.b1),(.imm 1 (y.term.args1.map encI))]])=((c.blocks.take (k+1)).map sinkB).map encB:=by rw [List.take_add_one,hy]; simp [sinkB,encB]
   rw [e2,e1] at hS
   replace hS:=PX.slots [2,3,22,23,24] hS (by kernel_rfl:PX.keepR [(.e 2 (.ptr 2 0)),(.e 3 (.ptr 3 0)),(.e 6 (.ptr 6 0)),(.e 7 (.J 1)),(.e 22 (.imm 10 (c.blocks.map encB))),(.e 23 (.sc (.I ((c.blocks.length:Nat):Int)))),(.e 24 (.sc (.I ((k+1:Nat):Int)))),(.e 34 (.J 2)),(.e 35 (.sc (.bool false))),(.e 36 (.J 1)),(.e 37 (.J 1)),(.e 38 (.J 1)),(.e 39 (.ptr 6 4)),(.e 40 (.ptr 6 6)),(.e 41 (.ptr 6 7)),(.e 42 (.imm 1 (y.term.args1.map encI))),(.e 43 (.imm 1 (y.term.args1.map encI))),(.e 44 (.ptr 6 4)),(.e 45 (.ptr 6 6)),(.e 46 (.ptr 6 7)),(.e 47 (.J 2))] [2,3,22,23,24]=some [(.e 2 (.ptr 2 0)),(.e 3 (.ptr 3 0)),(.e 22 (.imm 10 (c.blocks.map encB))),(.e 23 (.sc (.I ((c.blocks.length:Nat):Int)))),(.e 24 (.sc (.I ((k+1:Nat):Int))))])
   exact ⟨c.blocks.length-(k+1),by omega,k+1,rfl,by omega,trivial,(PX.canon [(4,8)] [(.e 2 (.ptr 2 0)),(.e 3 (.ptr 3 0)),(.e 22 (.imm 10 (c.blocks.map encB))),(.e 23 (.sc (.I ((c.blocks.length:Nat):Int)))),(.e 24 (.sc (.I ((k+1:Nat):Int))))] [(2,.box 26 [(.J 0),(.sc (.slice none 0 0)),(.sc (.slice none 0 0)),(.sc (.slice none 0 0))]),(3,.box 26 [(.J c.params),(.own 4 10 (k+1)),(.imm 3 (c.contexts.map encR)),(.imm 3 (c.objects.map encR))]),(4,.row 62 10 true (((c.blocks.take (k+1)).map sinkB).map encB))] 5 hS hE (by kernel_rfl) (by kernel_rfl) (by kernel_rfl))⟩
  ·skip
   refine wp_exit ?_
   refine hK7 _ _ ?_
   refine wp_seq_k fun K32 hK32=>?_
   refine PX.region_s (T:=[(.e 2 (.ptr 2 0)),(.e 3 (.ptr 3 0)),(.e 22 (.imm 10 (c.blocks.map encB))),(.e 23 (.sc (.I ((c.blocks.length:Nat):Int)))),(.e 24 (.sc (.I ((k:Nat):Int))))]) (H':=[(2,.box 26 [(.J c.params),(.own 4 10 k),(.imm 3 (c.contexts.map encR)),(.imm 3 (c.objects.map encR))]),(3,.box 26 [(.J c.params),(.own 4 10 k),(.imm 3 (c.contexts.map encR)),(.imm 3 (c.objects.map encR))]),(4,.row 62 10 true (((c.blocks.take (k)).map sinkB).map encB))]) (nx':=5) (obs:=[]) [] [.au,.au] [2,3,22,23,24] [2,3,4] hS (by kernel_rfl) (by kernel_rfl) (by kernel_rfl) (hE.le (by decide)) trivial ?_
   clear hS; intro a w hS
   have hk:c.blocks.length≤k:=by simpa using h12
   replace hS:=PX.freeze 4 hS (by kernel_rfl:PX.frzRun 4 [(.e 2 (.ptr 2 0)),(.e 3 (.ptr 3 0)),(.e 22 (.imm 10 (c.blocks.map encB))),(.e 23 (.sc (.I ((c.blocks.length:Nat):Int)))),(.e 24 (.sc (.I ((k:Nat):Int))))] [(2,.box 26 [(.J c.params),(.own 4 10 k),(.imm 3 (c.contexts.map encR)),(.imm 3 (c.objects.map encR))]),(3,.box 26 [(.J c.params),(.own 4 10 k),(.imm 3 (c.contexts.map encR)),(.imm 3 (c.objects.map encR))]),(4,.row 62 10 true (((c.blocks.take (k)).map sinkB).map encB))]=some ([(.e 2 (.ptr 2 0)),(.e 3 (.ptr 3 0)),(.e 22 (.imm 10 (c.blocks.map encB))),(.e 23 (.sc (.I ((c.blocks.length:Nat):Int)))),(.e 24 (.sc (.I ((k:Nat):Int))))],[(2,.box 26 [(.J c.params),(.imm 10 (((c.blocks.take (k)).map sinkB).map encB)),(.imm 3 (c.contexts.map encR)),(.imm 3 (c.objects.map encR))]),(3,.box 26 [(.J c.params),(.imm 10 (((c.blocks.take (k)).map sinkB).map encB)),(.imm 3 (c.contexts.map encR)),(.imm 3 (c.objects.map encR))])],[.b (PX.lenIs k (((c.blocks.take (k)).map sinkB).map encB)),.b (PX.lenIs k (((c.blocks.take (k)).map sinkB).map encB))])) ⟨(by simp [PX.lenIs]; omega),(by simp [PX.lenIs]; omega),trivial⟩
   refine hK32 _ _ ?_
   refine wp_ret ?_
   try simp only [Exit.then,Exit.inBlock,Nat.reduceEqDiff,↓reduceIte]
   rw [show (if P.check c (totW c.blocks)=0 then codeP (sinkD c) else codeP c)=((.agg [(.J c.params),(.imm 10 (((c.blocks.take (k)).map sinkB).map encB)),(.imm 3 (c.contexts.map encR)),(.imm 3 (c.objects.map encR))]):PX.PV) from by rw [if_pos hchk]; unfold sinkD codeP; rw [List.take_of_length_le hk]]
   exact PX.ret_s hS hE (by kernel_rfl) (by kernel_rfl) (by kernel_rfl) (.inl rfl)
end Go.Proofs.Ytlkcidmmpeebeaa
