/- Proved: TailRaw on plain data -/
import Derived.Test.YtlkcidmmpeebeaaPDown
import Derived.Test.YtlkcidmmpeebeaaPSmall
import Derived.Test.YtlkcidmmpeebeaaPRTail
set_option linter.unusedVariables false
set_option linter.unusedSimpArgs false
namespace Go.Proofs.Ytlkcidmmpeebeaa
open Go.RowKit Go.PX
set_option maxRecDepth 100000
def tlD (c:CodeD):CodeD:=if P.check c (totW c.blocks)=0 then tailD c else c
theorem con_tail {lo top:Nat} {c:CodeD} (hi:CodeI c):PX.Con Try.prog 15 [codeP c] [] lo top (codeP (tlD c)) []:=by
 have h:=tail_con c hi
 have e:(if P.check c (totW c.blocks)=0 then codeP (tailD c) else codeP c)=codeP (tlD c):=by unfold tlD; split <;> rfl
 rw [e] at h; exact PX.con_any h
theorem con_rtail {lo top:Nat} {c:CodeD} (hi:CodeI c):PX.Con Try.prog 17 [codeP c] [] lo top (codeP (tlD c)) []:=by
 have h:=rtail_con c hi
 rw [check_eq] at h
 have e:(if P.check c (totW c.blocks)=0 then codeP (tailD c) else codeP c)=codeP (tlD c):=by unfold tlD; split <;> rfl
 rw [e] at h; exact PX.con_any h
theorem codeI_tl {c:CodeD} (hi:CodeI c):CodeI (tlD c):=by
 unfold tlD
 split
 ·refine ⟨hi.1,fun b hb=>?_,hi.2.2⟩
  obtain ⟨y,hy,rfl⟩:=List.mem_map.1 hb
  have h:=hi.2.1 y hy
  unfold tailB
  split
  ·obtain ⟨⟨h1,h2,h3,h4,h5,h6⟩,h7,h8,_,_,h9⟩:=h
   exact ⟨⟨h1,by simp [tailY,tailT,I64],by simp [tailY,tailT,I64],h4,by simp [tailY,tailT,I64],by simp [tailY,tailT,I64]⟩,h7,h8,by simp [tailY,tailT],by simp [tailY,tailT],h9⟩
  ·exact h
 ·exact hi
theorem con_same2 {lo top:Nat} {c:CodeD} (hi:CodeI c) (h:(R.check c (totW c.blocks)==0)=false):PX.Con Try.prog 16 [codeP (tlD c),codeP c] [] lo top (.sc (.bool true)) []:=by
 have e:tlD c=c:=by
  unfold tlD; rw [if_neg]; rw [← check_eq]; simpa using h
 rw [e]; exact con_same hi
def tF:CodeD:={ params:=1,blocks:=[downA,tailY (downB []),retD 1 0 [⟨20,0,0,0,4,0,0,0,0,0,0⟩],retD 1 1 [⟨1,1,0,0,5,0,0,0,0,0,0⟩]],contexts:=[(-1,-1,0)],objects:=[] }
theorem tl_F:tlD downF=tF:=by kernel_rfl
theorem tl_T:tlD downT=downT:=by kernel_rfl
theorem blkI_of (b:BlockD) (h:(decide (-9223372036854775808≤b.params)&&decide (b.params≤9223372036854775807)&&decide (-9223372036854775808≤b.term.kind)&&decide (b.term.kind≤9223372036854775807)&&decide (-9223372036854775808≤b.term.a)&&decide (b.term.a≤9223372036854775807)&&decide (-9223372036854775808≤b.term.n)&&decide (b.term.n≤9223372036854775807)&&decide (-9223372036854775808≤b.term.b0)&&decide (b.term.b0≤9223372036854775807)&&decide (-9223372036854775808≤b.term.b1)&&decide (b.term.b1≤9223372036854775807)&&(b.ops.all fun o=>[o.kind,o.dst,o.a,o.b,o.n,o.ctx,o.var,o.piece,o.sk,o.sv,o.sa].all fun x=>decide (-9223372036854775808≤x)&&decide (x≤9223372036854775807))&&(b.term.args.all fun x=>decide (-9223372036854775808≤x)&&decide (x≤9223372036854775807))&&(b.term.args0.all fun x=>decide (-9223372036854775808≤x)&&decide (x≤9223372036854775807))&&(b.term.args1.all fun x=>decide (-9223372036854775808≤x)&&decide (x≤9223372036854775807))&&decide (b.ops.length≤140737488351232))=true):BlkI b:=by
 simp only [Bool.and_eq_true,decide_eq_true_eq,List.all_eq_true] at h
 obtain ⟨⟨⟨⟨⟨⟨⟨⟨⟨⟨⟨⟨⟨⟨⟨⟨h1,h2⟩,h3⟩,h4⟩,h5⟩,h6⟩,h7⟩,h8⟩,h9⟩,h10⟩,h11⟩,h12⟩,h13⟩,h14⟩,h15⟩,h16⟩,h17⟩:=h
 refine ⟨⟨⟨h1,h2⟩,⟨h3,h4⟩,⟨h5,h6⟩,⟨h7,h8⟩,⟨h9,h10⟩,⟨h11,h12⟩⟩,fun o ho=>?_,fun x hx=>h14 x hx,fun x hx=>h15 x hx,fun x hx=>h16 x hx,h17⟩
 have q:=h13 o ho
 exact ⟨q o.kind (by simp),q o.dst (by simp),q o.a (by simp),q o.b (by simp),q o.n (by simp),q o.ctx (by simp),q o.var (by simp),q o.piece (by simp),q o.sk (by simp),q o.sv (by simp),q o.sa (by simp)⟩
theorem codeI_F:CodeI downF:=⟨⟨by decide,by decide⟩,fun b hb=>by
 simp only [downF,List.mem_cons,List.not_mem_nil,or_false] at hb
 rcases hb with rfl | rfl | rfl | rfl <;> exact blkI_of _ (by decide),fun o ho=>by simp [downF] at ho; subst ho; exact ⟨⟨by decide,by decide⟩,⟨by decide,by decide⟩,by decide,by decide⟩,fun o ho=>by simp [downF] at ho⟩
theorem codeI_T:CodeI downT:=⟨⟨by decide,by decide⟩,fun b hb=>by
 simp only [downT,List.mem_cons,List.not_mem_nil,or_false] at hb
 rcases hb with rfl | rfl | rfl | rfl <;> exact blkI_of _ (by decide),fun o ho=>by simp [downT] at ho; subst ho; exact ⟨⟨by decide,by decide⟩,⟨by decide,by decide⟩,by decide,by decide⟩,fun o ho=>by simp [downT] at ho⟩
theorem con_tailF {lo top:Nat}:PX.Con Try.prog 15 [codeP downF] [] lo top (codeP tF) []:=by rw [← tl_F]; exact con_tail codeI_F
theorem con_tailT {lo top:Nat}:PX.Con Try.prog 15 [codeP downT] [] lo top (codeP downT) []:=by
 have h:=con_tail (lo:=lo) (top:=top) codeI_T
 rw [tl_T] at h; exact h

set_option maxHeartbeats 1000000 in
theorem known_con  : PX.Con Try.prog 14 [] [] 1 100000 (.sc (.bool true)) []:=by
 refine PX.con_intro [] 46 Try.func14 rfl rfl (by kernel_rfl) (by kernel_rfl) ?_
 intro E a hE hS
 generalize E.w0=w at hS ⊢
 have mix:=mixed
 refine wp_seq_k fun K1 hK1=>?_
 refine PX.region_s (T:=[(.e 0 (.sc (.bool false)))]) (H':=[]) (nx':=1) (obs:=[]) [] [.au] [0] [] hS (by kernel_rfl) (by kernel_rfl) (by kernel_rfl) (hE.le (by decide)) trivial ?_
 clear hS; intro a w hS
 refine hK1 _ _ ?_
 refine wp_seq_k fun K2 hK2=>?_
 refine PX.region_s (T:=[(.e 0 (.sc (.bool false))),(.e 1 (.ptr 1 0)),(.e 2 (.ptr 2 0))]) (H':=[(1,.box 26 [(.J tF.params),(.imm 10 (tF.blocks.map encB)),(.imm 3 (tF.contexts.map encR)),(.imm 3 (tF.objects.map encR))]),(2,.box 26 [(.J downT.params),(.imm 10 (downT.blocks.map encB)),(.imm 3 (downT.contexts.map encR)),(.imm 3 (downT.objects.map encR))])]) (nx':=3) (obs:=[.q (PX.Con Try.prog 21 [(.sc (.bool false))] [] 1 1 (.agg [(.J downF.params),(.imm 10 (downF.blocks.map encB)),(.imm 3 (downF.contexts.map encR)),(.imm 3 (downF.objects.map encR))]) []),.q (PX.Con Try.prog 15 [(.agg [(.J downF.params),(.imm 10 (downF.blocks.map encB)),(.imm 3 (downF.contexts.map encR)),(.imm 3 (downF.objects.map encR))])] [] 1 1 (.agg [(.J tF.params),(.imm 10 (tF.blocks.map encB)),(.imm 3 (tF.contexts.map encR)),(.imm 3 (tF.objects.map encR))]) []),.q (PX.Con Try.prog 21 [(.sc (.bool true))] [] 1 1 (.agg [(.J downT.params),(.imm 10 (downT.blocks.map encB)),(.imm 3 (downT.contexts.map encR)),(.imm 3 (downT.objects.map encR))]) []),.q (PX.Con Try.prog 15 [(.agg [(.J downT.params),(.imm 10 (downT.blocks.map encB)),(.imm 3 (downT.contexts.map encR)),(.imm 3 (downT.objects.map encR))])] [] 1 1 (.agg [(.J downT.params),(.imm 10 (downT.blocks.map encB)),(.imm 3 (downT.contexts.map encR)),(.imm 3 (downT.objects.map encR))]) [])]) [] [.cl [] (.agg [(.J downF.params),(.imm 10 (downF.blocks.map encB)),(.imm 3 (downF.contexts.map encR)),(.imm 3 (downF.objects.map encR))]) [] 1,.cl [] (.agg [(.J tF.params),(.imm 10 (tF.blocks.map encB)),(.imm 3 (tF.contexts.map encR)),(.imm 3 (tF.objects.map encR))]) [] 1,.cl [] (.agg [(.J downT.params),(.imm 10 (downT.blocks.map encB)),(.imm 3 (downT.contexts.map encR)),(.imm 3 (downT.objects.map encR))]) [] 1,.cl [] (.agg [(.J downT.params),(.imm 10 (downT.blocks.map encB)),(.imm 3 (downT.contexts.map encR)),(.imm 3 (downT.objects.map encR))]) [] 1,.au,.au,.au,.au] [0,1,2] [1,2] hS (by kernel_rfl) (by kernel_rfl) (by kernel_rfl) (hE.le (by decide)) ⟨PX.con_any con_downF,con_tailF,PX.con_any con_downT,con_tailT,trivial⟩ ?_
 clear hS; intro a w hS
 refine hK2 _ _ ?_
 refine wp_seq_k fun K3 hK3=>?_
 refine PX.region_s (T:=[(.e 0 (.sc (.bool (((((((tF.blocks.length:Nat):Int)==4)&&(((tailY (downB [])).term.kind)==6))&&(((tailY (downB [])).term.b0)==(-1)))&&(((downT.blocks.length:Nat):Int)==4))&&(((downB [0]).term.kind)==3))))),(.e 1 (.ptr 1 0)),(.e 2 (.ptr 2 0))]) (H':=[(1,.box 26 [(.J tF.params),(.imm 10 (tF.blocks.map encB)),(.imm 3 (tF.contexts.map encR)),(.imm 3 (tF.objects.map encR))]),(2,.box 26 [(.J downT.params),(.imm 10 (downT.blocks.map encB)),(.imm 3 (downT.contexts.map encR)),(.imm 3 (downT.objects.map encR))])]) (nx':=3) (obs:=[.q ((.sc (.I (((tF.blocks.map encB).length:Nat):Int)):PX.PV)=(.sc (.I ((tF.blocks.length:Nat):Int)))),.q (SX.pv [(4,(((tF.blocks.length:Nat):Int)==4)),(13,((((tF.blocks.length:Nat):Int)==4)&&(((tailY (downB [])).term.kind)==6))),(24,(((((tF.blocks.length:Nat):Int)==4)&&(((tailY (downB [])).term.kind)==6))&&(((tailY (downB [])).term.b0)==(-1)))),(30,((((((tF.blocks.length:Nat):Int)==4)&&(((tailY (downB [])).term.kind)==6))&&(((tailY (downB [])).term.b0)==(-1)))&&(((downT.blocks.length:Nat):Int)==4)))] [(4,true)]=true→PX.AllOb [.q (1=((1:Nat):Int)),.q ((tF.blocks.map encB)[1]?=some (encB (tailY (downB []))))]),.q (SX.pv [(4,(((tF.blocks.length:Nat):Int)==4)),(13,((((tF.blocks.length:Nat):Int)==4)&&(((tailY (downB [])).term.kind)==6))),(24,(((((tF.blocks.length:Nat):Int)==4)&&(((tailY (downB [])).term.kind)==6))&&(((tailY (downB [])).term.b0)==(-1)))),(30,((((((tF.blocks.length:Nat):Int)==4)&&(((tailY (downB [])).term.kind)==6))&&(((tailY (downB [])).term.b0)==(-1)))&&(((downT.blocks.length:Nat):Int)==4)))] [(13,true)]=true→PX.AllOb [.q (1=((1:Nat):Int)),.q ((tF.blocks.map encB)[1]?=some (encB (tailY (downB []))))]),.q (SX.pv [(4,(((tF.blocks.length:Nat):Int)==4)),(13,((((tF.blocks.length:Nat):Int)==4)&&(((tailY (downB [])).term.kind)==6))),(24,(((((tF.blocks.length:Nat):Int)==4)&&(((tailY (downB [])).term.kind)==6))&&(((tailY (downB [])).term.b0)==(-1)))),(30,((((((tF.blocks.length:Nat):Int)==4)&&(((tailY (downB [])).term.kind)==6))&&(((tailY (downB [])).term.b0)==(-1)))&&(((downT.blocks.length:Nat):Int)==4)))] [(24,true)]=true→PX.AllOb [.q ((.sc (.I (((downT.blocks.map encB).length:Nat):Int)):PX.PV)=(.sc (.I ((downT.blocks.length:Nat):Int))))]),.q (SX.pv [(4,(((tF.blocks.length:Nat):Int)==4)),(13,((((tF.blocks.length:Nat):Int)==4)&&(((tailY (downB [])).term.kind)==6))),(24,(((((tF.blocks.length:Nat):Int)==4)&&(((tailY (downB [])).term.kind)==6))&&(((tailY (downB [])).term.b0)==(-1)))),(30,((((((tF.blocks.length:Nat):Int)==4)&&(((tailY (downB [])).term.kind)==6))&&(((tailY (downB [])).term.b0)==(-1)))&&(((downT.blocks.length:Nat):Int)==4)))] [(30,true)]=true→PX.AllOb [.q (1=((1:Nat):Int)),.q ((downT.blocks.map encB)[1]?=some (encB (downB [0])))])]) [(4,(((tF.blocks.length:Nat):Int)==4)),(13,((((tF.blocks.length:Nat):Int)==4)&&(((tailY (downB [])).term.kind)==6))),(24,(((((tF.blocks.length:Nat):Int)==4)&&(((tailY (downB [])).term.kind)==6))&&(((tailY (downB [])).term.b0)==(-1)))),(30,((((((tF.blocks.length:Nat):Int)==4)&&(((tailY (downB [])).term.kind)==6))&&(((tailY (downB [])).term.b0)==(-1)))&&(((downT.blocks.length:Nat):Int)==4)))] [.au,.au,.nm (.sc (.I ((tF.blocks.length:Nat):Int))),.au,.au,.au,.au,.ix 1 (encB (tailY (downB []))),.au,.au,.au,.au,.pk,.au,.au,.au,.ix 1 (encB (tailY (downB []))),.au,.au,.au,.au,.au,.au,.pk,.au,.au,.au,.nm (.sc (.I ((downT.blocks.length:Nat):Int))),.au,.pk,.au,.au,.au,.ix 1 (encB (downB [0])),.au,.au,.au,.au,.pk,.au] [0,1,2] [1,2] hS (by kernel_rfl) (by kernel_rfl) (by kernel_rfl) (hE.le (by decide)) ⟨PX.nm_len (by simp),fun hg=>⟨rfl,rfl,trivial⟩,fun hg=>⟨rfl,rfl,trivial⟩,fun hg=>⟨PX.nm_len (by simp),trivial⟩,fun hg=>⟨rfl,rfl,trivial⟩,trivial⟩ ?_
 clear hS; intro a w hS
 refine hK3 _ _ ?_
 refine wp_ret ?_
 try simp only [Exit.then,Exit.inBlock,Nat.reduceEqDiff,↓reduceIte]
 rw [show (.sc (.bool true))=((.sc (.bool (((((((tF.blocks.length:Nat):Int)==4)&&(((tailY (downB [])).term.kind)==6))&&(((tailY (downB [])).term.b0)==(-1)))&&(((downT.blocks.length:Nat):Int)==4))&&(((downB [0]).term.kind)==3)))):PX.PV) from by kernel_rfl]
 exact PX.ret_s hS hE (by kernel_rfl) (by kernel_rfl) (by kernel_rfl) (.inl rfl)

theorem con_known {lo top:Nat}:PX.Con Try.prog 14 [] [] lo top (.sc (.bool true)) []:=PX.con_any known_con

set_option maxHeartbeats 1000000 in
theorem tailRaw_con (c:CodeD) (hi:CodeI c) (hlen:c.blocks.length≤140737488351232):PX.Con Try.prog 3 [(.agg [(.J c.params),(.imm 10 (c.blocks.map encB)),(.imm 3 (c.contexts.map encR)),(.imm 3 (c.objects.map encR))])] [] 1 100000 (.sc (.bool true)) []:=by
 refine PX.con_intro [(.agg [(.J c.params),(.imm 10 (c.blocks.map encB)),(.imm 3 (c.contexts.map encR)),(.imm 3 (c.objects.map encR))])] 27 Try.func3 rfl rfl (by kernel_rfl) (by kernel_rfl) ?_
 intro E a hE hS
 generalize E.w0=w at hS ⊢
 have mix:=mixed
 refine wp_seq_k fun K1 hK1=>?_
 refine PX.region_s (T:=[(.e 1 (.ptr 1 0)),(.e 2 (.sc (.bool false)))]) (H':=[(1,.box 26 [(.J c.params),(.imm 10 (c.blocks.map encB)),(.imm 3 (c.contexts.map encR)),(.imm 3 (c.objects.map encR))])]) (nx':=2) (obs:=[]) [] [.au,.au] [1,2] [1] hS (by kernel_rfl) (by kernel_rfl) (by kernel_rfl) (hE.le (by decide)) trivial ?_
 clear hS; intro a w hS
 refine hK1 _ _ ?_
 refine wp_seq_k fun K2 hK2=>?_
 refine wp_seq_k fun K3 hK3=>?_
 refine PX.region_s (T:=[(.e 1 (.ptr 1 0)),(.e 2 (.sc (.bool false))),(.e 6 (.sc (.bool (!(smallD c)))))]) (H':=[(1,.box 26 [(.J c.params),(.imm 10 (c.blocks.map encB)),(.imm 3 (c.contexts.map encR)),(.imm 3 (c.objects.map encR))])]) (nx':=2) (obs:=[.q (PX.Con Try.prog 13 [(.agg [(.J c.params),(.imm 10 (c.blocks.map encB)),(.imm 3 (c.contexts.map encR)),(.imm 3 (c.objects.map encR))])] [] 2 2 (.sc (.bool (smallD c))) [])]) [] [.au,.cl [] (.sc (.bool (smallD c))) [] 2,.au] [1,2,6] [1] hS (by kernel_rfl) (by kernel_rfl) (by kernel_rfl) (hE.le (by decide)) ⟨PX.con_any (small_con c hi hlen),trivial⟩ ?_
 clear hS; intro a w hS
 refine hK3 _ _ ?_
 refine PX.cond_s (!(smallD c)) hS (by kernel_rfl) (fun h4=>?_) (fun h4=>?_)
 ·skip
  refine wp_seq_k fun K5 hK5=>?_
  refine PX.region_s (T:=[(.e 1 (.ptr 1 0)),(.e 2 (.sc (.bool true))),(.e 6 (.sc (.bool (!(smallD c)))))]) (H':=[(1,.box 26 [(.J c.params),(.imm 10 (c.blocks.map encB)),(.imm 3 (c.contexts.map encR)),(.imm 3 (c.objects.map encR))])]) (nx':=2) (obs:=[.q (PX.Con Try.prog 14 [] [] 2 2 (.sc (.bool true)) [])]) [] [.cl [] (.sc (.bool true)) [] 2,.au] [1,2,6] [1] hS (by kernel_rfl) (by kernel_rfl) (by kernel_rfl) (hE.le (by decide)) ⟨con_known,trivial⟩ ?_
  clear hS; intro a w hS
  refine hK5 _ _ ?_
  refine wp_ret ?_
  try simp only [Exit.then,Exit.inBlock,Nat.reduceEqDiff,↓reduceIte]
  rw [show (.sc (.bool true))=((.sc (.bool true)):PX.PV) from by simp]
  exact PX.ret_s hS hE (by kernel_rfl) (by kernel_rfl) (by kernel_rfl) (.inl rfl)
 ·skip
  refine wp_skip ?_
  refine hK2 _ _ ?_
  refine wp_seq_k fun K6 hK6=>?_
  refine PX.region_s (T:=[(.e 1 (.ptr 1 0)),(.e 2 (.sc (.bool false))),(.e 3 (.ptr 2 0)),(.e 6 (.sc (.bool (!(smallD c)))))]) (H':=[(1,.box 26 [(.J c.params),(.imm 10 (c.blocks.map encB)),(.imm 3 (c.contexts.map encR)),(.imm 3 (c.objects.map encR))]),(2,.box 26 [(.sc (.I ((tlD c).params))),(.imm 10 (((tlD c).blocks).map encB)),(.imm 3 (((tlD c).contexts).map encR)),(.imm 3 (((tlD c).objects).map encR))])]) (nx':=3) (obs:=[.q (PX.Con Try.prog 15 [(.agg [(.J c.params),(.imm 10 (c.blocks.map encB)),(.imm 3 (c.contexts.map encR)),(.imm 3 (c.objects.map encR))])] [] 2 2 (.agg [(.sc (.I ((tlD c).params))),(.imm 10 (((tlD c).blocks).map encB)),(.imm 3 (((tlD c).contexts).map encR)),(.imm 3 (((tlD c).objects).map encR))]) [])]) [] [.au,.cl [] (.agg [(.sc (.I ((tlD c).params))),(.imm 10 (((tlD c).blocks).map encB)),(.imm 3 (((tlD c).contexts).map encR)),(.imm 3 (((tlD c).objects).map encR))]) [] 2,.au,.au] [1,2,3,6] [1,2] hS (by kernel_rfl) (by kernel_rfl) (by kernel_rfl) (hE.le (by decide)) ⟨con_tail hi,trivial⟩ ?_
  clear hS; intro a w hS
  refine hK6 _ _ ?_
  refine wp_seq_k fun K7 hK7=>?_
  refine PX.region_a (T:=[(.e 1 (.ptr 1 0)),(.e 2 (.sc (.bool ((((R.check c (totW c.blocks))==0)||true)&&true)))),(.e 3 (.ptr 2 0)),(.e 6 (.sc (.bool (!(smallD c)))))]) (H':=[(1,.box 26 [(.J c.params),(.imm 10 (c.blocks.map encB)),(.imm 3 (c.contexts.map encR)),(.imm 3 (c.objects.map encR))]),(2,.box 26 [(.sc (.I ((tlD c).params))),(.imm 10 (((tlD c).blocks).map encB)),(.imm 3 (((tlD c).contexts).map encR)),(.imm 3 (((tlD c).objects).map encR))])]) (nx':=3) (obs:=[.q (PX.Con Try.prog 17 [(.agg [(.J c.params),(.imm 10 (c.blocks.map encB)),(.imm 3 (c.contexts.map encR)),(.imm 3 (c.objects.map encR))])] [] 3 3 (.agg [(.sc (.I ((tlD c).params))),(.imm 10 (((tlD c).blocks).map encB)),(.imm 3 (((tlD c).contexts).map encR)),(.imm 3 (((tlD c).objects).map encR))]) []),.q (PX.Con Try.prog 16 [(.agg [(.sc (.I ((tlD c).params))),(.imm 10 (((tlD c).blocks).map encB)),(.imm 3 (((tlD c).contexts).map encR)),(.imm 3 (((tlD c).objects).map encR))]),(.agg [(.sc (.I ((tlD c).params))),(.imm 10 (((tlD c).blocks).map encB)),(.imm 3 (((tlD c).contexts).map encR)),(.imm 3 (((tlD c).objects).map encR))])] [] 3 3 (.sc (.bool true)) []),.q (SX.pv [(4,true),(8,((R.check c (totW c.blocks))==0)),(14,(((R.check c (totW c.blocks))==0)||true))] [(4,true)]=true→PX.AllOb [.q (PX.Con Try.prog 18 [(.agg [(.J c.params),(.imm 10 (c.blocks.map encB)),(.imm 3 (c.contexts.map encR)),(.imm 3 (c.objects.map encR))])] [] 3 3 (.sc (.I (R.check c (totW c.blocks)))) [])]),.q (SX.pv [(4,true),(8,((R.check c (totW c.blocks))==0)),(14,(((R.check c (totW c.blocks))==0)||true))] [(8,false),(4,true)]=true→PX.AllOb [.q (PX.Con Try.prog 16 [(.agg [(.sc (.I ((tlD c).params))),(.imm 10 (((tlD c).blocks).map encB)),(.imm 3 (((tlD c).contexts).map encR)),(.imm 3 (((tlD c).objects).map encR))]),(.agg [(.J c.params),(.imm 10 (c.blocks.map encB)),(.imm 3 (c.contexts.map encR)),(.imm 3 (c.objects.map encR))])] [] 3 3 (.sc (.bool true)) [])]),.q (SX.pv [(4,true),(8,((R.check c (totW c.blocks))==0)),(14,(((R.check c (totW c.blocks))==0)||true))] [(14,true)]=true→PX.AllOb [.q (PX.Con Try.prog 14 [] [] 3 3 (.sc (.bool true)) [])])]) [(4,true),(8,((R.check c (totW c.blocks))==0)),(14,(((R.check c (totW c.blocks))==0)||true))] [.au,.au,.cl [] (.agg [(.sc (.I ((tlD c).params))),(.imm 10 (((tlD c).blocks).map encB)),(.imm 3 (((tlD c).contexts).map encR)),(.imm 3 (((tlD c).objects).map encR))]) [] 3,.cl [] (.sc (.bool true)) [] 3,.au,.au,.cl [] (.sc (.I (R.check c (totW c.blocks)))) [] 3,.au,.au,.au,.au,.cl [] (.sc (.bool true)) [] 3,.pk,.pk,.au,.cl [] (.sc (.bool true)) [] 3,.pk,.au] [1,2,3,6] [1,2] hS (by kernel_rfl) mixed (by kernel_rfl) (by kernel_rfl) (hE.le (by decide)) ⟨con_rtail hi,con_same (codeI_tl hi),fun hg=>⟨con_rcheck hi,trivial⟩,fun hg=>⟨con_same2 hi (by simp [SX.pv,SX.kv] at hg; simpa using hg.2),trivial⟩,fun hg=>⟨con_known,trivial⟩,trivial⟩ ?_
  clear hS; intro a w hS
  refine hK7 _ _ ?_
  refine wp_ret ?_
  try simp only [Exit.then,Exit.inBlock,Nat.reduceEqDiff,↓reduceIte]
  rw [show (.sc (.bool true))=((.sc (.bool ((((R.check c (totW c.blocks))==0)||true)&&true))):PX.PV) from by simp]
  exact PX.ret_s hS hE (by kernel_rfl) (by kernel_rfl) (by kernel_rfl) (.inl rfl)
end Go.Proofs.Ytlkcidmmpeebeaa
