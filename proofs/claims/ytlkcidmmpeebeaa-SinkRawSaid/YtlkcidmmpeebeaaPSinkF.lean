/- Proved: ref13.Sink on plain data -/
import Derived.Test.YtlkcidmmpeebeaaPcE
set_option linter.unusedVariables false
set_option linter.unusedSimpArgs false
namespace Go.Proofs.Ytlkcidmmpeebeaa
open Go.RowKit Go.PX
set_option maxRecDepth 100000
def atD (l:List OpD) (o:OpD):Nat:=if movesD o.kind=true then l.findIdx (fun u=>usesD u o.dst) else 0
def insD (l:List OpD) (o:OpD):List OpD:=l.take (atD l o)++[o]++l.drop (atD l o)
def sinkL:List OpD→List OpD
 | []=>[]
 | o::l=>insD (sinkL l) o
def sinkB (b:BlockD):BlockD:={ b with ops:=sinkL b.ops }
def sinkD (c:CodeD):CodeD:={ c with blocks:=c.blocks.map sinkB }
theorem insD_len (l:List OpD) (o:OpD):(insD l o).length=l.length+1:=by
 unfold insD; simp; omega
theorem sinkL_len:∀ l:List OpD,(sinkL l).length=l.length
 | []=>rfl
 | o::l=>by rw [sinkL,insD_len,sinkL_len l]; rfl
theorem sink_step {ops:List OpD} {p:Nat} {o:OpD} (ho:ops[p]?=some o):sinkL (ops.drop p)=insD (sinkL (ops.drop (p+1))) o:=by
 obtain ⟨h1,h2⟩:=List.getElem?_eq_some_iff.1 ho
 rw [List.drop_eq_getElem_cons h1,sinkL,h2]
theorem get_if {α:Type} [Inhabited α] (l:List α) (k:Nat):∃ y,k<l.length→l[k]?=some y:=by
 by_cases h:k<l.length
 ·exact ⟨l[k],fun _=>List.getElem?_eq_getElem h⟩
 ·exact ⟨default,fun q=>absurd q h⟩
instance:Inhabited OpD:=⟨⟨0,0,0,0,0,0,0,0,0,0,0⟩⟩
theorem atD_at {l:List OpD} {o z:OpD} {q:Nat} (h:Upto l (fun _ u=>movesD o.kind&&!usesD u o.dst) q) (hz:q<l.length→l[q]?=some z) (hq:q≤l.length) (ht:(q<l.length→(movesD o.kind&&!usesD z o.dst)=false)):atD l o=q:=by
 unfold atD
 by_cases hm:movesD o.kind=true
 ·rw [if_pos hm]
  have hno:∀ j (hj:j<q) (hj':j<l.length),usesD l[j] o.dst=false:=fun j hj hj'=>by
   have:=h j l[j] hj (List.getElem?_eq_getElem hj')
   rw [hm] at this; simpa using this
  by_cases hql:q<l.length
  ·have h1:=ht hql
   rw [hm] at h1
   have h2:usesD z o.dst=true:=by simpa using h1
   rw [List.findIdx_eq hql]
   obtain ⟨h3,h4⟩:=List.getElem?_eq_some_iff.1 (hz hql)
   exact ⟨by rw [h4]; exact h2,fun j hj=>by have:=hno j hj (by omega); simp [this]⟩
  ·have:q=l.length:=by omega
   subst this
   rw [List.findIdx_eq_length]
   intro x hx
   obtain ⟨j,hj⟩:=List.getElem?_of_mem hx
   obtain ⟨h3,h4⟩:=List.getElem?_eq_some_iff.1 hj
   rw [← h4,hno j h3 h3]
 ·rw [if_neg hm]
  cases q with
  | zero=>rfl
  | succ q =>
   have:=h 0 l[0] (by omega) (List.getElem?_eq_getElem (by omega))
   simp [hm] at this

theorem con_f80_any {lo top:Nat} (o:OpD) (v:Int):PX.Con Try.prog 80 [.agg (encO o),.sc (.I v)] [] lo top (.sc (.bool (usesD o v))) []:=PX.con_any (con_f80 o v)

set_option maxHeartbeats 1000000 in
theorem rsink_con (c:CodeD) (hi:CodeI c):PX.Con Try.prog 42 [(codeP c)] [] 1 100000 (if R.check c (totW c.blocks)=0 then codeP (sinkD c) else codeP c) []:=by
 refine PX.con_intro [(codeP c)] 79 Try.func42 rfl rfl (by kernel_rfl) (by kernel_rfl) ?_
 intro E a hE hS
 generalize E.w0=w at hS ⊢
 have mix:=mixed
 refine wp_seq_k fun K1 hK1=>?_
 refine PX.region_s (T:=[(.e 1 (.ptr 1 0)),(.e 2 (.ptr 2 0))]) (H':=[(1,.box 26 (codeL c)),(2,.box 26 [(.J 0),(.sc (.slice none 0 0)),(.sc (.slice none 0 0)),(.sc (.slice none 0 0))])]) (nx':=3) (obs:=[]) [] [.au,.au] [1,2] [1,2] hS (by kernel_rfl) (by kernel_rfl) (by kernel_rfl) (hE.le (by decide)) trivial ?_
 clear hS; intro a w hS
 refine hK1 _ _ ?_
 refine wp_seq_k fun K2 hK2=>?_
 refine wp_seq_k fun K3 hK3=>?_
 refine PX.region_s (T:=[(.e 1 (.ptr 1 0)),(.e 2 (.ptr 2 0)),(.e 12 (.sc (.bool ((R.check c (totW c.blocks)) != 0))))]) (H':=[(1,.box 26 (codeL c)),(2,.box 26 [(.J 0),(.sc (.slice none 0 0)),(.sc (.slice none 0 0)),(.sc (.slice none 0 0))])]) (nx':=3) (obs:=[.q (PX.Con Try.prog 18 [(codeP c)] [] 3 3 (.sc (.I (R.check c (totW c.blocks)))) [])]) [] [.au,.cl [] (.sc (.I (R.check c (totW c.blocks)))) [] 3,.au] [1,2,12] [1,2] hS (by kernel_rfl) (by kernel_rfl) (by kernel_rfl) (hE.le (by decide)) ⟨con_rcheck hi,trivial⟩ ?_
 clear hS; intro a w hS
 refine hK3 _ _ ?_
 refine PX.cond_s ((R.check c (totW c.blocks)) != 0) hS (by kernel_rfl) (fun h4=>?_) (fun h4=>?_)
 ·skip
  refine wp_seq_k fun K5 hK5=>?_
  refine PX.region_s (T:=[(.e 2 (.ptr 2 0))]) (H':=[(2,.box 26 (codeL c))]) (nx':=3) (obs:=[]) [] [.au,.au] [2] [2] hS (by kernel_rfl) (by kernel_rfl) (by kernel_rfl) (hE.le (by decide)) trivial ?_
  clear hS; intro a w hS
  refine hK5 _ _ ?_
  refine wp_ret ?_
  try simp only [Exit.then,Exit.inBlock,Nat.reduceEqDiff,↓reduceIte]
  rw [show (if R.check c (totW c.blocks)=0 then codeP (sinkD c) else codeP c)=((codeP c):PX.PV) from by rw [if_neg (by simpa using h4)] <;> rfl]
  exact PX.ret_s hS hE (by kernel_rfl) (by kernel_rfl) (by kernel_rfl) (.inl rfl)
 ·skip
  refine wp_skip ?_
  refine hK2 _ _ ?_
  refine wp_seq_k fun K6 hK6=>?_
  have hchk:R.check c (totW c.blocks)=0:=by simpa using h4
  have hfit:=fit_of hi hchk; have hfb:=hfit.blocks
  refine PX.region_s (T:=[(.e 1 (.ptr 1 0)),(.e 2 (.ptr 2 0)),(.e 3 (.ptr 3 0))]) (H':=[(1,.box 26 (codeL c)),(2,.box 26 [(.J 0),(.sc (.slice none 0 0)),(.sc (.slice none 0 0)),(.sc (.slice none 0 0))]),(3,.box 26 (codeL c))]) (nx':=4) (obs:=[]) [] [.au,.au,.au] [1,2,3] [1,2,3] hS (by kernel_rfl) (by kernel_rfl) (by kernel_rfl) (hE.le (by decide)) trivial ?_
  clear hS; intro a w hS
  refine hK6 _ _ ?_
  refine wp_seq_k fun K7 hK7=>?_
  refine PX.region_s (T:=[(.e 1 (.ptr 1 0)),(.e 2 (.ptr 2 0)),(.e 3 (.ptr 3 0))]) (H':=[(1,.box 26 (codeL c)),(2,.box 26 [(.J 0),(.sc (.slice none 0 0)),(.sc (.slice none 0 0)),(.sc (.slice none 0 0))]),(3,.box 26 [(.J c.params),(.sc (.slice none 0 0)),(.imm 3 (c.contexts.map encR)),(.imm 3 (c.objects.map encR))])]) (nx':=4) (obs:=[]) [] [.au,.au] [1,2,3] [1,2,3] hS (by kernel_rfl) (by kernel_rfl) (by kernel_rfl) (hE.le (by decide)) trivial ?_
  clear hS; intro a w hS
  refine hK7 _ _ ?_
  refine wp_seq_k fun K8 hK8=>?_
  refine wp_seq_k fun K9 hK9=>?_
  refine PX.region_s (T:=[(.e 2 (.ptr 2 0)),(.e 3 (.ptr 3 0)),(.e 17 (.imm 10 (c.blocks.map encB))),(.e 18 (.sc (.I ((c.blocks.length:Nat):Int)))),(.e 19 (.J 0))]) (H':=[(2,.box 26 [(.J 0),(.sc (.slice none 0 0)),(.sc (.slice none 0 0)),(.sc (.slice none 0 0))]),(3,.box 26 [(.J c.params),(.sc (.slice none 0 0)),(.imm 3 (c.contexts.map encR)),(.imm 3 (c.objects.map encR))])]) (nx':=4) (obs:=[.q ((.sc (.I (((c.blocks.map encB).length:Nat):Int)):PX.PV)=(.sc (.I ((c.blocks.length:Nat):Int))))]) [] [.au,.au,.nm (.sc (.I ((c.blocks.length:Nat):Int))),.au] [2,3,17,18,19] [2,3] hS (by kernel_rfl) (by kernel_rfl) (by kernel_rfl) (hE.le (by decide)) ⟨PX.nm_len (by simp),trivial⟩ ?_
  clear hS; intro a w hS
  refine hK9 _ _ ?_
  refine wp_block ?_
  replace hS:=PX.recell (id:=3) (j:=1) (eb:=26) (xs:=[(.J c.params),(.sc (.slice none 0 0)),(.imm 3 (c.contexts.map encR)),(.imm 3 (c.objects.map encR))]) (.own 4 10 0) (PX.newrow 62 10 hS (hE.le (by decide))) (by kernel_rfl) (by kernel_rfl) rfl (PX.nil_own 4 10)
  refine wp_loop_ghost (fun m10 a' w'=>∃ k:Nat,m10=c.blocks.length-k∧k≤c.blocks.length∧True∧PX.Sat E 79 [(.e 2 (.ptr 2 0)),(.e 3 (.ptr 3 0)),(.e 17 (.imm 10 (c.blocks.map encB))),(.e 18 (.sc (.I ((c.blocks.length:Nat):Int)))),(.e 19 (.sc (.I ((k:Nat):Int))))] [(2,.box 26 [(.J 0),(.sc (.slice none 0 0)),(.sc (.slice none 0 0)),(.sc (.slice none 0 0))]),(3,.box 26 [(.J c.params),(.own 4 10 k),(.imm 3 (c.contexts.map encR)),(.imm 3 (c.objects.map encR))]),(4,.row 62 10 true (((c.blocks.take (k)).map sinkB).map encB))] 5 a' w') (c.blocks.length-0) ⟨0,rfl,Nat.zero_le _,trivial,(PX.canon [] [(.e 2 (.ptr 2 0)),(.e 3 (.ptr 3 0)),(.e 17 (.imm 10 (c.blocks.map encB))),(.e 18 (.sc (.I ((c.blocks.length:Nat):Int)))),(.e 19 (.sc (.I ((0:Nat):Int))))] [(2,.box 26 [(.J 0),(.sc (.slice none 0 0)),(.sc (.slice none 0 0)),(.sc (.slice none 0 0))]),(3,.box 26 [(.J c.params),(.own 4 10 0),(.imm 3 (c.contexts.map encR)),(.imm 3 (c.objects.map encR))]),(4,.row 62 10 true (((c.blocks.take (0)).map sinkB).map encB))] 5 hS hE (by kernel_rfl) (by kernel_rfl) (by kernel_rfl))⟩ ?_
  clear hS; rintro m10 a w ⟨k,hm10,hlek,hIk,hS⟩
  refine wp_seq_k fun K11 hK11=>?_
  refine PX.region_s (T:=[(.e 2 (.ptr 2 0)),(.e 3 (.ptr 3 0)),(.e 17 (.imm 10 (c.blocks.map encB))),(.e 18 (.sc (.I ((c.blocks.length:Nat):Int)))),(.e 19 (.sc (.I ((k:Nat):Int)))),(.e 20 (.sc (.bool (decide (((k:Nat):Int)<((c.blocks.length:Nat):Int))))))]) (H':=[(2,.box 26 [(.J 0),(.sc (.slice none 0 0)),(.sc (.slice none 0 0)),(.sc (.slice none 0 0))]),(3,.box 26 [(.J c.params),(.own 4 10 k),(.imm 3 (c.contexts.map encR)),(.imm 3 (c.objects.map encR))]),(4,.row 62 10 true (((c.blocks.take (k)).map sinkB).map encB))]) (nx':=5) (obs:=[]) [] [.au] [2,3,17,18,19,20] [2,3,4] hS (by kernel_rfl) (by kernel_rfl) (by kernel_rfl) (hE.le (by decide)) trivial ?_
  clear hS; intro a w hS
  refine hK11 _ _ ?_
  refine wp_seq_k fun K12 hK12=>?_
  refine PX.cond_s (decide (((k:Nat):Int)<((c.blocks.length:Nat):Int))) hS (by kernel_rfl) (fun h13=>?_) (fun h13=>?_)
  ·skip
   refine wp_skip ?_
   refine hK12 _ _ ?_
   refine wp_seq_k fun K14 hK14=>?_
   refine wp_block ?_
   refine wp_seq_k fun K15 hK15=>?_
   have hlty:k<c.blocks.length:=by simpa using h13
   obtain ⟨y,hy⟩:=get_of_lt hlty
   have hym:=List.mem_of_getElem? hy; have hyF:=hfit.ops y hym
   refine PX.region_s (T:=[(.e 2 (.ptr 2 0)),(.e 3 (.ptr 3 0)),(.e 5 (.ptr 5 0)),(.e 17 (.imm 10 (c.blocks.map encB))),(.e 18 (.sc (.I ((c.blocks.length:Nat):Int)))),(.e 19 (.sc (.I ((k:Nat):Int))))]) (H':=[(2,.box 26 [(.J 0),(.sc (.slice none 0 0)),(.sc (.slice none 0 0)),(.sc (.slice none 0 0))]),(3,.box 26 [(.J c.params),(.own 4 10 k),(.imm 3 (c.contexts.map encR)),(.imm 3 (c.objects.map encR))]),(4,.row 62 10 true (((c.blocks.take (k)).map sinkB).map encB)),(5,.box 62 (encB y))]) (nx':=6) (obs:=[.q (((k:Nat):Int)=((k:Nat):Int)),.q ((c.blocks.map encB)[k]?=some (encB y))]) [] [.ix k (encB y),.au,.au,.au] [2,3,5,17,18,19] [2,3,4,5] hS (by kernel_rfl) (by kernel_rfl) (by kernel_rfl) (hE.le (by decide)) ⟨rfl,PX.map_get hy,trivial⟩ ?_
   clear hS; intro a w hS
   refine hK15 _ _ ?_
   refine wp_seq_k fun K16 hK16=>?_
   refine PX.region_s (T:=[(.e 2 (.ptr 2 0)),(.e 3 (.ptr 3 0)),(.e 5 (.ptr 5 0)),(.e 6 (.sc (.slice none 0 0))),(.e 17 (.imm 10 (c.blocks.map encB))),(.e 18 (.sc (.I ((c.blocks.length:Nat):Int)))),(.e 19 (.sc (.I ((k:Nat):Int))))]) (H':=[(2,.box 26 [(.J 0),(.sc (.slice none 0 0)),(.sc (.slice none 0 0)),(.sc (.slice none 0 0))]),(3,.box 26 [(.J c.params),(.own 4 10 k),(.imm 3 (c.contexts.map encR)),(.imm 3 (c.objects.map encR))]),(4,.row 62 10 true (((c.blocks.take (k)).map sinkB).map encB)),(5,.box 62 (encB y))]) (nx':=6) (obs:=[]) [] [.au] [2,3,5,6,17,18,19] [2,3,4,5] hS (by kernel_rfl) (by kernel_rfl) (by kernel_rfl) (hE.le (by decide)) trivial ?_
   clear hS; intro a w hS
   refine hK16 _ _ ?_
   refine wp_seq_k fun K17 hK17=>?_
   refine wp_seq_k fun K18 hK18=>?_
   refine PX.region_s (T:=[(.e 2 (.ptr 2 0)),(.e 3 (.ptr 3 0)),(.e 5 (.ptr 5 0)),(.e 6 (.sc (.slice none 0 0))),(.e 7 (.sc (.I (((y.ops.length:Nat):Int)-1-((0:Nat):Int))))),(.e 17 (.imm 10 (c.blocks.map encB))),(.e 18 (.sc (.I ((c.blocks.length:Nat):Int)))),(.e 19 (.sc (.I ((k:Nat):Int))))]) (H':=[(2,.box 26 [(.J 0),(.sc (.slice none 0 0)),(.sc (.slice none 0 0)),(.sc (.slice none 0 0))]),(3,.box 26 [(.J c.params),(.own 4 10 k),(.imm 3 (c.contexts.map encR)),(.imm 3 (c.objects.map encR))]),(4,.row 62 10 true (((c.blocks.take (k)).map sinkB).map encB)),(5,.box 62 (encB y))]) (nx':=6) (obs:=[.q ((.sc (.I (((y.ops.map encO).length:Nat):Int)):PX.PV)=(.sc (.I ((y.ops.length:Nat):Int)))),.q ((.sc (.I (IntKind.i64.wrap (((y.ops.length:Nat):Int)-1))):PX.PV)=(.sc (.I (((y.ops.length:Nat):Int)-1-((0:Nat):Int)))))]) [] [.au,.au,.nm (.sc (.I ((y.ops.length:Nat):Int))),.nm (.sc (.I (((y.ops.length:Nat):Int)-1-((0:Nat):Int)))),.au] [2,3,5,6,7,17,18,19] [2,3,4,5] hS (by kernel_rfl) (by kernel_rfl) (by kernel_rfl) (hE.le (by decide)) ⟨PX.nm_len (by simp),PX.nm_int (by rw [IntWalk.i64_in _ (by omega)]; omega),trivial⟩ ?_
   clear hS; intro a w hS
   refine hK18 _ _ ?_
   refine wp_block ?_
   replace hS:=PX.slots [2,3,5,6,7,17,18,19] (PX.reslot (t:=6) (.imm 11 []) hS (by kernel_rfl) (PX.nil_imm 11)) (by kernel_rfl:PX.keepR (⟨6,[],.imm 11 []⟩::[(.e 2 (.ptr 2 0)),(.e 3 (.ptr 3 0)),(.e 5 (.ptr 5 0)),(.e 6 (.sc (.slice none 0 0))),(.e 7 (.sc (.I (((y.ops.length:Nat):Int)-1-((0:Nat):Int))))),(.e 17 (.imm 10 (c.blocks.map encB))),(.e 18 (.sc (.I ((c.blocks.length:Nat):Int)))),(.e 19 (.sc (.I ((k:Nat):Int))))]) [2,3,5,6,7,17,18,19]=some [(.e 2 (.ptr 2 0)),(.e 3 (.ptr 3 0)),(.e 5 (.ptr 5 0)),(.e 6 (.imm 11 ([]))),(.e 7 (.sc (.I (((y.ops.length:Nat):Int)-1-((0:Nat):Int))))),(.e 17 (.imm 10 (c.blocks.map encB))),(.e 18 (.sc (.I ((c.blocks.length:Nat):Int)))),(.e 19 (.sc (.I ((k:Nat):Int))))])
   refine wp_loop_ghost (fun m19 a' w'=>∃ m:Nat,∃ l:List OpD,m19=y.ops.length-m∧m≤y.ops.length∧(l=sinkL (y.ops.drop (y.ops.length-(m)))∧l.length=(m))∧PX.Sat E 79 [(.e 2 (.ptr 2 0)),(.e 3 (.ptr 3 0)),(.e 5 (.ptr 5 0)),(.e 6 (.imm 11 (l.map encO))),(.e 7 (.sc (.I (((y.ops.length:Nat):Int)-1-((m:Nat):Int))))),(.e 17 (.imm 10 (c.blocks.map encB))),(.e 18 (.sc (.I ((c.blocks.length:Nat):Int)))),(.e 19 (.sc (.I ((k:Nat):Int))))] [(2,.box 26 [(.J 0),(.sc (.slice none 0 0)),(.sc (.slice none 0 0)),(.sc (.slice none 0 0))]),(3,.box 26 [(.J c.params),(.own 4 10 k),(.imm 3 (c.contexts.map encR)),(.imm 3 (c.objects.map encR))]),(4,.row 62 10 true (((c.blocks.take (k)).map sinkB).map encB)),(5,.box 62 (encB y))] 6 a' w') (y.ops.length-0) ⟨0,[],rfl,Nat.zero_le _,⟨by simp [sinkL],rfl⟩,(PX.canon [] [(.e 2 (.ptr 2 0)),(.e 3 (.ptr 3 0)),(.e 5 (.ptr 5 0)),(.e 6 (.imm 11 (([]:List OpD).map encO))),(.e 7 (.sc (.I (((y.ops.length:Nat):Int)-1-((0:Nat):Int))))),(.e 17 (.imm 10 (c.blocks.map encB))),(.e 18 (.sc (.I ((c.blocks.length:Nat):Int)))),(.e 19 (.sc (.I ((k:Nat):Int))))] [(2,.box 26 [(.J 0),(.sc (.slice none 0 0)),(.sc (.slice none 0 0)),(.sc (.slice none 0 0))]),(3,.box 26 [(.J c.params),(.own 4 10 k),(.imm 3 (c.contexts.map encR)),(.imm 3 (c.objects.map encR))]),(4,.row 62 10 true (((c.blocks.take (k)).map sinkB).map encB)),(5,.box 62 (encB y))] 6 hS hE (by kernel_rfl) (by kernel_rfl) (by kernel_rfl))⟩ ?_
   clear hS; rintro m19 a w ⟨m,l,hm19,hlem,hIm,hS⟩
   refine wp_seq_k fun K20 hK20=>?_
   refine wp_seq_k fun K21 hK21=>?_
   refine PX.region_s (T:=[(.e 2 (.ptr 2 0)),(.e 3 (.ptr 3 0)),(.e 5 (.ptr 5 0)),(.e 6 (.imm 11 (l.map encO))),(.e 7 (.sc (.I (((y.ops.length:Nat):Int)-1-((m:Nat):Int))))),(.e 17 (.imm 10 (c.blocks.map encB))),(.e 18 (.sc (.I ((c.blocks.length:Nat):Int)))),(.e 19 (.sc (.I ((k:Nat):Int)))),(.e 28 (.sc (.bool (decide (0≤(((y.ops.length:Nat):Int)-1-((m:Nat):Int)))))))]) (H':=[(2,.box 26 [(.J 0),(.sc (.slice none 0 0)),(.sc (.slice none 0 0)),(.sc (.slice none 0 0))]),(3,.box 26 [(.J c.params),(.own 4 10 k),(.imm 3 (c.contexts.map encR)),(.imm 3 (c.objects.map encR))]),(4,.row 62 10 true (((c.blocks.take (k)).map sinkB).map encB)),(5,.box 62 (encB y))]) (nx':=6) (obs:=[]) [] [.au,.au] [2,3,5,6,7,17,18,19,28] [2,3,4,5] hS (by kernel_rfl) (by kernel_rfl) (by kernel_rfl) (hE.le (by decide)) trivial ?_
   clear hS; intro a w hS
   refine hK21 _ _ ?_
   refine PX.cond_s (decide (0≤(((y.ops.length:Nat):Int)-1-((m:Nat):Int)))) hS (by kernel_rfl) (fun h22=>?_) (fun h22=>?_)
   ·skip
    refine wp_skip ?_
    refine hK20 _ _ ?_
    refine wp_seq_k fun K23 hK23=>?_
    refine wp_block ?_
    refine wp_seq_k fun K24 hK24=>?_
    have hml:m<y.ops.length:=by have:=h22; simp at this; omega
    obtain ⟨p,hp⟩:∃ p,p+m+1=y.ops.length:=⟨y.ops.length-1-m,by omega⟩
    obtain ⟨o,ho⟩:=get_of_lt (show p<y.ops.length by omega)
    refine PX.region_s (T:=[(.e 2 (.ptr 2 0)),(.e 3 (.ptr 3 0)),(.e 5 (.ptr 5 0)),(.e 6 (.imm 11 (l.map encO))),(.e 7 (.sc (.I (((y.ops.length:Nat):Int)-1-((m:Nat):Int))))),(.e 8 (.ptr 6 0)),(.e 17 (.imm 10 (c.blocks.map encB))),(.e 18 (.sc (.I ((c.blocks.length:Nat):Int)))),(.e 19 (.sc (.I ((k:Nat):Int))))]) (H':=[(2,.box 26 [(.J 0),(.sc (.slice none 0 0)),(.sc (.slice none 0 0)),(.sc (.slice none 0 0))]),(3,.box 26 [(.J c.params),(.own 4 10 k),(.imm 3 (c.contexts.map encR)),(.imm 3 (c.objects.map encR))]),(4,.row 62 10 true (((c.blocks.take (k)).map sinkB).map encB)),(5,.box 62 (encB y)),(6,.box 74 (encO o))]) (nx':=7) (obs:=[.q (((y.ops.length:Nat):Int)-1-((m:Nat):Int)=((p:Nat):Int)),.q ((y.ops.map encO)[p]?=some (encO o))]) [] [.au,.au,.au,.ix p (encO o),.au,.au,.au] [2,3,5,6,7,8,17,18,19] [2,3,4,5,6] hS (by kernel_rfl) (by kernel_rfl) (by kernel_rfl) (hE.le (by decide)) ⟨by omega,PX.map_get ho,trivial⟩ ?_
    clear hS; intro a w hS
    refine hK24 _ _ ?_
    refine wp_seq_k fun K25 hK25=>?_
    refine PX.region_s (T:=[(.e 2 (.ptr 2 0)),(.e 3 (.ptr 3 0)),(.e 5 (.ptr 5 0)),(.e 6 (.imm 11 (l.map encO))),(.e 7 (.sc (.I (((y.ops.length:Nat):Int)-1-((m:Nat):Int))))),(.e 8 (.ptr 6 0)),(.e 9 (.J 0)),(.e 17 (.imm 10 (c.blocks.map encB))),(.e 18 (.sc (.I ((c.blocks.length:Nat):Int)))),(.e 19 (.sc (.I ((k:Nat):Int))))]) (H':=[(2,.box 26 [(.J 0),(.sc (.slice none 0 0)),(.sc (.slice none 0 0)),(.sc (.slice none 0 0))]),(3,.box 26 [(.J c.params),(.own 4 10 k),(.imm 3 (c.contexts.map encR)),(.imm 3 (c.objects.map encR))]),(4,.row 62 10 true (((c.blocks.take (k)).map sinkB).map encB)),(5,.box 62 (encB y)),(6,.box 74 (encO o))]) (nx':=7) (obs:=[]) [] [.au] [2,3,5,6,7,8,9,17,18,19] [2,3,4,5,6] hS (by kernel_rfl) (by kernel_rfl) (by kernel_rfl) (hE.le (by decide)) trivial ?_
    clear hS; intro a w hS
    refine hK25 _ _ ?_
    refine wp_seq_k fun K26 hK26=>?_
    refine wp_block ?_
    refine wp_loop_ghost (fun m27 a' w'=>∃ q:Nat,m27=l.length-q∧q≤l.length∧Upto l (fun _ u=>movesD o.kind&&!usesD u o.dst) (q)∧PX.Sat E 79 [(.e 2 (.ptr 2 0)),(.e 3 (.ptr 3 0)),(.e 5 (.ptr 5 0)),(.e 6 (.imm 11 (l.map encO))),(.e 7 (.sc (.I (((y.ops.length:Nat):Int)-1-((m:Nat):Int))))),(.e 8 (.ptr 6 0)),(.e 9 (.sc (.I ((q:Nat):Int)))),(.e 17 (.imm 10 (c.blocks.map encB))),(.e 18 (.sc (.I ((c.blocks.length:Nat):Int)))),(.e 19 (.sc (.I ((k:Nat):Int))))] [(2,.box 26 [(.J 0),(.sc (.slice none 0 0)),(.sc (.slice none 0 0)),(.sc (.slice none 0 0))]),(3,.box 26 [(.J c.params),(.own 4 10 k),(.imm 3 (c.contexts.map encR)),(.imm 3 (c.objects.map encR))]),(4,.row 62 10 true (((c.blocks.take (k)).map sinkB).map encB)),(5,.box 62 (encB y)),(6,.box 74 (encO o))] 7 a' w') (l.length-0) ⟨0,rfl,Nat.zero_le _,Upto.zero,(PX.canon [] [(.e 2 (.ptr 2 0)),(.e 3 (.ptr 3 0)),(.e 5 (.ptr 5 0)),(.e 6 (.imm 11 (l.map encO))),(.e 7 (.sc (.I (((y.ops.length:Nat):Int)-1-((m:Nat):Int))))),(.e 8 (.ptr 6 0)),(.e 9 (.sc (.I ((0:Nat):Int)))),(.e 17 (.imm 10 (c.blocks.map encB))),(.e 18 (.sc (.I ((c.blocks.length:Nat):Int)))),(.e 19 (.sc (.I ((k:Nat):Int))))] [(2,.box 26 [(.J 0),(.sc (.slice none 0 0)),(.sc (.slice none 0 0)),(.sc (.slice none 0 0))]),(3,.box 26 [(.J c.params),(.own 4 10 k),(.imm 3 (c.contexts.map encR)),(.imm 3 (c.objects.map encR))]),(4,.row 62 10 true (((c.blocks.take (k)).map sinkB).map encB)),(5,.box 62 (encB y)),(6,.box 74 (encO o))] 7 hS hE (by kernel_rfl) (by kernel_rfl) (by kernel_rfl))⟩ ?_
    clear hS; rintro m27 a w ⟨q,hm27,hleq,hIq,hS⟩
    refine wp_seq_k fun K28 hK28=>?_
    refine wp_seq_k fun K29 hK29=>?_
    obtain ⟨z,hz⟩:=get_if l q
    refine PX.region_a (T:=[(.e 2 (.ptr 2 0)),(.e 3 (.ptr 3 0)),(.e 5 (.ptr 5 0)),(.e 6 (.imm 11 (l.map encO))),(.e 7 (.sc (.I (((y.ops.length:Nat):Int)-1-((m:Nat):Int))))),(.e 8 (.ptr 6 0)),(.e 9 (.sc (.I ((q:Nat):Int)))),(.e 17 (.imm 10 (c.blocks.map encB))),(.e 18 (.sc (.I ((c.blocks.length:Nat):Int)))),(.e 19 (.sc (.I ((k:Nat):Int)))),(.e 54 (.sc (.bool (((movesD o.kind)&&decide (((q:Nat):Int)<((l.length:Nat):Int)))&&(!(usesD z o.dst))))))]) (H':=[(2,.box 26 [(.J 0),(.sc (.slice none 0 0)),(.sc (.slice none 0 0)),(.sc (.slice none 0 0))]),(3,.box 26 [(.J c.params),(.own 4 10 k),(.imm 3 (c.contexts.map encR)),(.imm 3 (c.objects.map encR))]),(4,.row 62 10 true (((c.blocks.take (k)).map sinkB).map encB)),(5,.box 62 (encB y)),(6,.box 74 (encO o))]) (nx':=7) (obs:=[.q (PX.Con Try.prog 79 [(.J o.kind)] [] 7 7 (.sc (.bool (movesD o.kind))) []),.q (SX.pv [(3,(movesD o.kind)),(9,((movesD o.kind)&&decide (((q:Nat):Int)<((l.length:Nat):Int))))] [(3,true)]=true→PX.AllOb [.q ((.sc (.I (((l.map encO).length:Nat):Int)):PX.PV)=(.sc (.I ((l.length:Nat):Int))))]),.q (SX.pv [(3,(movesD o.kind)),(9,((movesD o.kind)&&decide (((q:Nat):Int)<((l.length:Nat):Int))))] [(9,true)]=true→PX.AllOb [.q (((q:Nat):Int)=((q:Nat):Int)),.q ((l.map encO)[q]?=some (encO z))]),.q (SX.pv [(3,(movesD o.kind)),(9,((movesD o.kind)&&decide (((q:Nat):Int)<((l.length:Nat):Int))))] [(9,true)]=true→PX.AllOb [.q (PX.Con Try.prog 80 [(.agg (encO z)),(.J o.dst)] [] 7 7 (.sc (.bool (usesD z o.dst))) [])])]) [(3,(movesD o.kind)),(9,((movesD o.kind)&&decide (((q:Nat):Int)<((l.length:Nat):Int))))] [.au,.au,.cl [] (.sc (.bool (movesD o.kind))) [] 7,.au,.au,.au,.nm (.sc (.I ((l.length:Nat):Int))),.au,.pk,.au,.au,.au,.ix q (encO z),.au,.au,.au,.cl [] (.sc (.bool (usesD z o.dst))) [] 7,.au,.pk] [2,3,5,6,7,8,9,17,18,19,54] [2,3,4,5,6] hS (by kernel_rfl) mixed (by kernel_rfl) (by kernel_rfl) (hE.le (by decide)) ⟨con_f79_any o.kind,fun hg=>⟨PX.nm_len (by simp),trivial⟩,fun hg=>⟨rfl,PX.map_get (hz (by simp [SX.pv,SX.kv] at hg; exact hg.2)),trivial⟩,fun hg=>⟨con_f80_any z o.dst,trivial⟩,trivial⟩ ?_
    clear hS; intro a w hS
    refine hK29 _ _ ?_
    refine PX.cond_s (((movesD o.kind)&&decide (((q:Nat):Int)<((l.length:Nat):Int)))&&(!(usesD z o.dst))) hS (by kernel_rfl) (fun h30=>?_) (fun h30=>?_)
    ·skip
     refine wp_skip ?_
     refine hK28 _ _ ?_
     refine wp_block ?_
     have hql:q<l.length:=by have hc:=h30; simp at hc; exact hc.1.2
     refine PX.region_s (T:=[(.e 2 (.ptr 2 0)),(.e 3 (.ptr 3 0)),(.e 5 (.ptr 5 0)),(.e 6 (.imm 11 (l.map encO))),(.e 7 (.sc (.I (((y.ops.length:Nat):Int)-1-((m:Nat):Int))))),(.e 8 (.ptr 6 0)),(.e 9 (.sc (.I ((q+1:Nat):Int)))),(.e 17 (.imm 10 (c.blocks.map encB))),(.e 18 (.sc (.I ((c.blocks.length:Nat):Int)))),(.e 19 (.sc (.I ((k:Nat):Int))))]) (H':=[(2,.box 26 [(.J 0),(.sc (.slice none 0 0)),(.sc (.slice none 0 0)),(.sc (.slice none 0 0))]),(3,.box 26 [(.J c.params),(.own 4 10 k),(.imm 3 (c.contexts.map encR)),(.imm 3 (c.objects.map encR))]),(4,.row 62 10 true (((c.blocks.take (k)).map sinkB).map encB)),(5,.box 62 (encB y)),(6,.box 74 (encO o))]) (nx':=7) (obs:=[.q ((.sc (.I (IntKind.i64.wrap (((q:Nat):Int)+1))):PX.PV)=(.sc (.I ((q+1:Nat):Int))))]) [] [.au,.nm (.sc (.I ((q+1:Nat):Int))),.au] [2,3,5,6,7,8,9,17,18,19] [2,3,4,5,6] hS (by kernel_rfl) (by kernel_rfl) (by kernel_rfl) (hE.le (by decide)) ⟨PX.nm_int (by rw [IntWalk.i64_in _ (by omega)]; omega),trivial⟩ ?_
     clear hS; intro a w hS
     exact ⟨l.length-(q+1),by omega,q+1,rfl,by omega,hIq.step (hz (by have hc:=h30; simp at hc; exact hc.1.2)) (by have hc:=h30; simp at hc; simp [hc.1.1,hc.2]),(PX.canon [] [(.e 2 (.ptr 2 0)),(.e 3 (.ptr 3 0)),(.e 5 (.ptr 5 0)),(.e 6 (.imm 11 (l.map encO))),(.e 7 (.sc (.I (((y.ops.length:Nat):Int)-1-((m:Nat):Int))))),(.e 8 (.ptr 6 0)),(.e 9 (.sc (.I ((q+1:Nat):Int)))),(.e 17 (.imm 10 (c.blocks.map encB))),(.e 18 (.sc (.I ((c.blocks.length:Nat):Int)))),(.e 19 (.sc (.I ((k:Nat):Int))))] [(2,.box 26 [(.J 0),(.sc (.slice none 0 0)),(.sc (.slice none 0 0)),(.sc (.slice none 0 0))]),(3,.box 26 [(.J c.params),(.own 4 10 k),(.imm 3 (c.contexts.map encR)),(.imm 3 (c.objects.map encR))]),(4,.row 62 10 true (((c.blocks.take (k)).map sinkB).map encB)),(5,.box 62 (encB y)),(6,.box 74 (encO o))] 7 hS hE (by kernel_rfl) (by kernel_rfl) (by kernel_rfl))⟩
    ·skip
     refine wp_exit ?_
     refine hK26 _ _ ?_
     have hat:atD l o=q:=atD_at hIq hz hleq (fun hql=>by have hc:=h30; simpa [hql] using hc)
     refine PX.region_a (T:=[(.e 2 (.ptr 2 0)),(.e 3 (.ptr 3 0)),(.e 5 (.ptr 5 0)),(.e 6 (.own 11 11 ((((l.take q).map encO++[(encO o)]):List (List PX.PV)).length+((l.drop q).map encO).length))),(.e 7 (.sc (.I (((y.ops.length:Nat):Int)-1-((m:Nat):Int))))),(.e 8 (.ptr 6 0)),(.e 9 (.sc (.I ((q:Nat):Int)))),(.e 17 (.imm 10 (c.blocks.map encB))),(.e 18 (.sc (.I ((c.blocks.length:Nat):Int)))),(.e 19 (.sc (.I ((k:Nat):Int))))]) (H':=[(2,.box 26 [(.J 0),(.sc (.slice none 0 0)),(.sc (.slice none 0 0)),(.sc (.slice none 0 0))]),(3,.box 26 [(.J c.params),(.own 4 10 k),(.imm 3 (c.contexts.map encR)),(.imm 3 (c.objects.map encR))]),(4,.row 62 10 true (((c.blocks.take (k)).map sinkB).map encB)),(5,.box 62 (encB y)),(6,.box 74 (encO o)),(11,.row 74 11 true (((l.take q).map encO++[(encO o)])++(l.drop q).map encO))]) (nx':=12) (obs:=[.q ((0:Nat)≤q),.q (q≤(l.map encO).length),.q (((l.map encO).take q).drop 0=(l.take q).map encO),.q ((0:Nat)=0),.q (((q:Nat):Int)=((q:Nat):Int)),.b (lenIs 0 ([])),.b true,.b (Nat.ble (0+((l.take q).map encO).length) 1000000000),.b (lenIs (0+((l.take q).map encO).length) ((l.take q).map encO)),.b (lenIs 1 ([(encO o)])),.b (Nat.ble (((l.take q).map encO:List (List PX.PV)).length+1) 1000000000),.q ((q:Nat)≤(l.map encO).length),.q ((l.map encO).length≤(l.map encO).length),.q (((l.map encO).take ((l.map encO).length)).drop q=(l.drop q).map encO),.q (((q:Nat):Int)=((q:Nat):Int)),.q (((l.map encO).length:Nat)=(l.map encO).length),.b (lenIs (((l.take q).map encO:List (List PX.PV)).length+1) ((l.take q).map encO++[(encO o)])),.b true,.b (Nat.ble ((((l.take q).map encO++[(encO o)]):List (List PX.PV)).length+((l.drop q).map encO).length) 1000000000)]) [] [.au,.au,.au,.sl 0 q ((l.take q).map encO),.au,.au,.au,.au,.au,.au,.sl q ((l.map encO).length) ((l.drop q).map encO),.au,.au] [2,3,5,6,7,8,9,17,18,19] [2,3,4,5,6,11] hS (by kernel_rfl) mixed (by kernel_rfl) (by kernel_rfl) (hE.le (by decide)) ⟨Nat.zero_le _,by simp; omega,by simp,rfl,rfl,rfl,rfl,by first | (simp; done) | (simp; omega),by first | (simp [PX.lenIs]; done) | (simp [PX.lenIs]; omega),rfl,by first | (simp; done) | (simp; omega),by simp; omega,Nat.le_refl _,by rw [List.take_length,List.map_drop],rfl,rfl,by first | (simp [PX.lenIs]; done) | (simp [PX.lenIs]; omega),rfl,by first | (simp; done) | (simp; omega),trivial⟩ ?_
     clear hS; intro a w hS
     replace hS:=PX.freeze 11 hS (by kernel_rfl:PX.frzRun 11 [(.e 2 (.ptr 2 0)),(.e 3 (.ptr 3 0)),(.e 5 (.ptr 5 0)),(.e 6 (.own 11 11 ((((l.take q).map encO++[(encO o)]):List (List PX.PV)).length+((l.drop q).map encO).length))),(.e 7 (.sc (.I (((y.ops.length:Nat):Int)-1-((m:Nat):Int))))),(.e 8 (.ptr 6 0)),(.e 9 (.sc (.I ((q:Nat):Int)))),(.e 17 (.imm 10 (c.blocks.map encB))),(.e 18 (.sc (.I ((c.blocks.length:Nat):Int)))),(.e 19 (.sc (.I ((k:Nat):Int))))] [(2,.box 26 [(.J 0),(.sc (.slice none 0 0)),(.sc (.slice none 0 0)),(.sc (.slice none 0 0))]),(3,.box 26 [(.J c.params),(.own 4 10 k),(.imm 3 (c.contexts.map encR)),(.imm 3 (c.objects.map encR))]),(4,.row 62 10 true (((c.blocks.take (k)).map sinkB).map encB)),(5,.box 62 (encB y)),(6,.box 74 (encO o)),(11,.row 74 11 true (((l.take q).map encO++[(encO o)])++(l.drop q).map encO))]=some ([(.e 2 (.ptr 2 0)),(.e 3 (.ptr 3 0)),(.e 5 (.ptr 5 0)),(.e 6 (.imm 11 (((l.take q).map encO++[(encO o)])++(l.drop q).map encO))),(.e 7 (.sc (.I (((y.ops.length:Nat):Int)-1-((m:Nat):Int))))),(.e 8 (.ptr 6 0)),(.e 9 (.sc (.I ((q:Nat):Int)))),(.e 17 (.imm 10 (c.blocks.map encB))),(.e 18 (.sc (.I ((c.blocks.length:Nat):Int)))),(.e 19 (.sc (.I ((k:Nat):Int))))],[(2,.box 26 [(.J 0),(.sc (.slice none 0 0)),(.sc (.slice none 0 0)),(.sc (.slice none 0 0))]),(3,.box 26 [(.J c.params),(.own 4 10 k),(.imm 3 (c.contexts.map encR)),(.imm 3 (c.objects.map encR))]),(4,.row 62 10 true (((c.blocks.take (k)).map sinkB).map encB)),(5,.box 62 (encB y)),(6,.box 74 (encO o))],[.b (PX.lenIs ((((l.take q).map encO++[(encO o)]):List (List PX.PV)).length+((l.drop q).map encO).length) (((l.take q).map encO++[(encO o)])++(l.drop q).map encO))])) ⟨(by simp [PX.lenIs]; omega),trivial⟩
     rw [show (((l.take q).map encO++[(encO o)])++(l.drop q).map encO)=(insD l o).map encO from by simp [insD,hat,encO]] at hS
     refine hK23 _ _ ?_
     refine PX.region_s (T:=[(.e 2 (.ptr 2 0)),(.e 3 (.ptr 3 0)),(.e 5 (.ptr 5 0)),(.e 6 (.imm 11 ((insD l o).map encO))),(.e 7 (.sc (.I (((y.ops.length:Nat):Int)-1-((m+1:Nat):Int))))),(.e 8 (.ptr 6 0)),(.e 9 (.sc (.I ((q:Nat):Int)))),(.e 17 (.imm 10 (c.blocks.map encB))),(.e 18 (.sc (.I ((c.blocks.length:Nat):Int)))),(.e 19 (.sc (.I ((k:Nat):Int))))]) (H':=[(2,.box 26 [(.J 0),(.sc (.slice none 0 0)),(.sc (.slice none 0 0)),(.sc (.slice none 0 0))]),(3,.box 26 [(.J c.params),(.own 4 10 k),(.imm 3 (c.contexts.map encR)),(.imm 3 (c.objects.map encR))]),(4,.row 62 10 true (((c.blocks.take (k)).map sinkB).map encB)),(5,.box 62 (encB y)),(6,.box 74 (encO o))]) (nx':=12) (obs:=[.q ((.sc (.I (IntKind.i64.wrap ((((y.ops.length:Nat):Int)-1-((m:Nat):Int))-1))):PX.PV)=(.sc (.I (((y.ops.length:Nat):Int)-1-((m+1:Nat):Int)))))]) [] [.au,.nm (.sc (.I (((y.ops.length:Nat):Int)-1-((m+1:Nat):Int)))),.au] [2,3,5,6,7,8,9,17,18,19] [2,3,4,5,6] hS (by kernel_rfl) (by kernel_rfl) (by kernel_rfl) (hE.le (by decide)) ⟨PX.nm_int (by rw [IntWalk.i64_in _ (by omega)]; omega),trivial⟩ ?_
     clear hS; intro a w hS
     replace hS:=PX.slots [2,3,5,6,7,17,18,19] hS (by kernel_rfl:PX.keepR [(.e 2 (.ptr 2 0)),(.e 3 (.ptr 3 0)),(.e 5 (.ptr 5 0)),(.e 6 (.imm 11 ((insD l o).map encO))),(.e 7 (.sc (.I (((y.ops.length:Nat):Int)-1-((m+1:Nat):Int))))),(.e 8 (.ptr 6 0)),(.e 9 (.sc (.I ((q:Nat):Int)))),(.e 17 (.imm 10 (c.blocks.map encB))),(.e 18 (.sc (.I ((c.blocks.length:Nat):Int)))),(.e 19 (.sc (.I ((k:Nat):Int))))] [2,3,5,6,7,17,18,19]=some [(.e 2 (.ptr 2 0)),(.e 3 (.ptr 3 0)),(.e 5 (.ptr 5 0)),(.e 6 (.imm 11 ((insD l o).map encO))),(.e 7 (.sc (.I (((y.ops.length:Nat):Int)-1-((m+1:Nat):Int))))),(.e 17 (.imm 10 (c.blocks.map encB))),(.e 18 (.sc (.I ((c.blocks.length:Nat):Int)))),(.e 19 (.sc (.I ((k:Nat):Int))))])
     exact ⟨y.ops.length-(m+1),by omega,m+1,insD l o,rfl,by omega,⟨by rw [show y.ops.length-(m+1)=p by omega,sink_step ho,hIm.1,show y.ops.length-m=p+1 by omega],by rw [insD_len,hIm.2]⟩,(PX.canon [] [(.e 2 (.ptr 2 0)),(.e 3 (.ptr 3 0)),(.e 5 (.ptr 5 0)),(.e 6 (.imm 11 ((insD l o).map encO))),(.e 7 (.sc (.I (((y.ops.length:Nat):Int)-1-((m+1:Nat):Int))))),(.e 17 (.imm 10 (c.blocks.map encB))),(.e 18 (.sc (.I ((c.blocks.length:Nat):Int)))),(.e 19 (.sc (.I ((k:Nat):Int))))] [(2,.box 26 [(.J 0),(.sc (.slice none 0 0)),(.sc (.slice none 0 0)),(.sc (.slice none 0 0))]),(3,.box 26 [(.J c.params),(.own 4 10 k),(.imm 3 (c.contexts.map encR)),(.imm 3 (c.objects.map encR))]),(4,.row 62 10 true (((c.blocks.take (k)).map sinkB).map encB)),(5,.box 62 (encB y))] 6 hS hE (by kernel_rfl) (by kernel_rfl) (by kernel_rfl))⟩
   ·skip
    refine wp_exit ?_
    refine hK17 _ _ ?_
    refine wp_seq_k fun K31 hK31=>?_
    refine PX.region_s (T:=[(.e 2 (.ptr 2 0)),(.e 3 (.ptr 3 0)),(.e 5 (.ptr 5 0)),(.e 6 (.imm 11 (l.map encO))),(.e 7 (.sc (.I (((y.ops.length:Nat):Int)-1-((m:Nat):Int))))),(.e 17 (.imm 10 (c.blocks.map encB))),(.e 18 (.sc (.I ((c.blocks.length:Nat):Int)))),(.e 19 (.sc (.I ((k:Nat):Int))))]) (H':=[(2,.box 26 [(.J 0),(.sc (.slice none 0 0)),(.sc (.slice none 0 0)),(.sc (.slice none 0 0))]),(3,.box 26 [(.J c.params),(.own 4 10 k),(.imm 3 (c.contexts.map encR)),(.imm 3 (c.objects.map encR))]),(4,.row 62 10 true (((c.blocks.take (k)).map sinkB).map encB)),(5,.box 62 [(.J y.params),(.imm 11 (l.map encO)),(.J y.term.kind),(.J y.term.a),(.J y.term.n),(.imm 1 (y.term.args.map encI)),(.J y.term.b0),(.imm 1 (y.term.args0.map encI)),(.J y.term.b1),(.imm 1 (y.term.args1.map encI))])]) (nx':=6) (obs:=[]) [] [.au,.au,.au] [2,3,5,6,7,17,18,19] [2,3,4,5] hS (by kernel_rfl) (by kernel_rfl) (by kernel_rfl) (hE.le (by decide)) trivial ?_
    clear hS; intro a w hS
    have hmm:m=y.ops.length:=by have:=h22; simp at this; omega
    refine hK31 _ _ ?_
    refine PX.region_s (T:=[(.e 2 (.ptr 2 0)),(.e 3 (.ptr 3 0)),(.e 5 (.ptr 5 0)),(.e 6 (.imm 11 (l.map encO))),(.e 7 (.sc (.I (((y.ops.length:Nat):Int)-1-((m:Nat):Int))))),(.e 17 (.imm 10 (c.blocks.map encB))),(.e 18 (.sc (.I ((c.blocks.length:Nat):Int)))),(.e 19 (.sc (.I ((k:Nat):Int))))]) (H':=[(2,.box 26 [(.J 0),(.sc (.slice none 0 0)),(.sc (.slice none 0 0)),(.sc (.slice none 0 0))]),(3,.box 26 [(.J c.params),(.own 7 10 ((((c.blocks.take (k)).map sinkB).map encB:List (List PX.PV)).length+1)),(.imm 3 (c.contexts.map encR)),(.imm 3 (c.objects.map encR))]),(5,.box 62 [(.J y.params),(.imm 11 (l.map encO)),(.J y.term.kind),(.J y.term.a),(.J y.term.n),(.imm 1 (y.term.args.map encI)),(.J y.term.b0),(.imm 1 (y.term.args0.map encI)),(.J y.term.b1),(.imm 1 (y.term.args1.map encI))]),(7,.row 62 10 true (((c.blocks.take (k)).map sinkB).map encB++[[(.J y.params),(.imm 11 (l.map encO)),(.J y.term.kind),(.J y.term.a),(.J y.term.n),(.imm 1 (y.term.args.map encI)),(.J y.term.b0),(.imm 1 (y.term.args0.map encI)),(.J y.term.b1),(.imm 1 (y.term.args1.map encI))]]))]) (nx':=8) (obs:=[.b (lenIs k (((c.blocks.take (k)).map sinkB).map encB)),.b (lenIs 1 ([[(.J y.params),(.imm 11 (l.map encO)),(.J y.term.kind),(.J y.term.a),(.J y.term.n),(.imm 1 (y.term.args.map encI)),(.J y.term.b0),(.imm 1 (y.term.args0.map encI)),(.J y.term.b1),(.imm 1 (y.term.args1.map encI))]])),.b (Nat.ble ((((c.blocks.take (k)).map sinkB).map encB:List (List PX.PV)).length+1) 1000000000)]) [] [.au,.au,.au,.au,.au,.au,.au] [2,3,5,6,7,17,18,19] [2,3,5,7] hS (by kernel_rfl) (by kernel_rfl) (by kernel_rfl) (hE.le (by decide)) ⟨by simp [PX.lenIs]; omega,rfl,by simp; omega,trivial⟩ ?_
    clear hS; intro a w hS
    refine hK14 _ _ ?_
    refine PX.region_s (T:=[(.e 2 (.ptr 2 0)),(.e 3 (.ptr 3 0)),(.e 5 (.ptr 5 0)),(.e 6 (.imm 11 (l.map encO))),(.e 7 (.sc (.I (((y.ops.length:Nat):Int)-1-((m:Nat):Int))))),(.e 17 (.imm 10 (c.blocks.map encB))),(.e 18 (.sc (.I ((c.blocks.length:Nat):Int)))),(.e 19 (.sc (.I ((k+1:Nat):Int))))]) (H':=[(2,.box 26 [(.J 0),(.sc (.slice none 0 0)),(.sc (.slice none 0 0)),(.sc (.slice none 0 0))]),(3,.box 26 [(.J c.params),(.own 7 10 ((((c.blocks.take (k)).map sinkB).map encB:List (List PX.PV)).length+1)),(.imm 3 (c.contexts.map encR)),(.imm 3 (c.objects.map encR))]),(5,.box 62 [(.J y.params),(.imm 11 (l.map encO)),(.J y.term.kind),(.J y.term.a),(.J y.term.n),(.imm 1 (y.term.args.map encI)),(.J y.term.b0),(.imm 1 (y.term.args0.map encI)),(.J y.term.b1),(.imm 1 (y.term.args1.map encI))]),(7,.row 62 10 true (((c.blocks.take (k)).map sinkB).map encB++[[(.J y.params),(.imm 11 (l.map encO)),(.J y.term.kind),(.J y.term.a),(.J y.term.n),(.imm 1 (y.term.args.map encI)),(.J y.term.b0),(.imm 1 (y.term.args0.map encI)),(.J y.term.b1),(.imm 1 (y.term.args1.map encI))]]))]) (nx':=8) (obs:=[.q ((.sc (.I (IntKind.i64.wrap (((k:Nat):Int)+1))):PX.PV)=(.sc (.I ((k+1:Nat):Int))))]) [] [.nm (.sc (.I ((k+1:Nat):Int))),.au] [2,3,5,6,7,17,18,19] [2,3,5,7] hS (by kernel_rfl) (by kernel_rfl) (by kernel_rfl) (hE.le (by decide)) ⟨PX.nm_int (by rw [IntWalk.i64_in _ (by omega)]; omega),trivial⟩ ?_
    clear hS; intro a w hS
    have e2:(((c.blocks.take (k)).map sinkB).map encB:List (List PX.PV)).length+1=k+1:=by simp; omega
    have hls:l=sinkL y.ops:=by rw [hIm.1,show y.ops.length-m=0 by omega]; rfl
    have e1:(((c.blocks.take (k)).map sinkB).map encB++[[(.J y.params),(.imm 11 (l.map encO)),(.J y.term.kind),(.J y.term.a),(.J y.term.n),(.imm 1 (y.term.args.map encI)),(.J y.term.b0),(.imm 1 (y.term.args0.map encI)),(.J y.term.b1),(.imm 1 (y.term.args1.map encI))]])=((c.blocks.take (k+1)).map sinkB).map encB:=by rw [List.take_add_one,hy]; simp [sinkB,encB,hls]
    rw [e2,e1] at hS
    replace hS:=PX.slots [2,3,17,18,19] hS (by kernel_rfl:PX.keepR [(.e 2 (.ptr 2 0)),(.e 3 (.ptr 3 0)),(.e 5 (.ptr 5 0)),(.e 6 (.imm 11 (l.map encO))),(.e 7 (.sc (.I (((y.ops.length:Nat):Int)-1-((m:Nat):Int))))),(.e 17 (.imm 10 (c.blocks.map encB))),(.e 18 (.sc (.I ((c.blocks.length:Nat):Int)))),(.e 19 (.sc (.I ((k+1:Nat):Int))))] [2,3,17,18,19]=some [(.e 2 (.ptr 2 0)),(.e 3 (.ptr 3 0)),(.e 17 (.imm 10 (c.blocks.map encB))),(.e 18 (.sc (.I ((c.blocks.length:Nat):Int)))),(.e 19 (.sc (.I ((k+1:Nat):Int))))])
    exact ⟨c.blocks.length-(k+1),by omega,k+1,rfl,by omega,trivial,(PX.canon [(4,7)] [(.e 2 (.ptr 2 0)),(.e 3 (.ptr 3 0)),(.e 17 (.imm 10 (c.blocks.map encB))),(.e 18 (.sc (.I ((c.blocks.length:Nat):Int)))),(.e 19 (.sc (.I ((k+1:Nat):Int))))] [(2,.box 26 [(.J 0),(.sc (.slice none 0 0)),(.sc (.slice none 0 0)),(.sc (.slice none 0 0))]),(3,.box 26 [(.J c.params),(.own 4 10 (k+1)),(.imm 3 (c.contexts.map encR)),(.imm 3 (c.objects.map encR))]),(4,.row 62 10 true (((c.blocks.take (k+1)).map sinkB).map encB))] 5 hS hE (by kernel_rfl) (by kernel_rfl) (by kernel_rfl))⟩
  ·skip
   refine wp_exit ?_
   refine hK8 _ _ ?_
   refine wp_seq_k fun K32 hK32=>?_
   refine PX.region_s (T:=[(.e 2 (.ptr 2 0)),(.e 3 (.ptr 3 0)),(.e 17 (.imm 10 (c.blocks.map encB))),(.e 18 (.sc (.I ((c.blocks.length:Nat):Int)))),(.e 19 (.sc (.I ((k:Nat):Int))))]) (H':=[(2,.box 26 [(.J c.params),(.own 4 10 k),(.imm 3 (c.contexts.map encR)),(.imm 3 (c.objects.map encR))]),(3,.box 26 [(.J c.params),(.own 4 10 k),(.imm 3 (c.contexts.map encR)),(.imm 3 (c.objects.map encR))]),(4,.row 62 10 true (((c.blocks.take (k)).map sinkB).map encB))]) (nx':=5) (obs:=[]) [] [.au,.au] [2,3,17,18,19] [2,3,4] hS (by kernel_rfl) (by kernel_rfl) (by kernel_rfl) (hE.le (by decide)) trivial ?_
   clear hS; intro a w hS
   have hk:c.blocks.length≤k:=by simpa using h13
   replace hS:=PX.freeze 4 hS (by kernel_rfl:PX.frzRun 4 [(.e 2 (.ptr 2 0)),(.e 3 (.ptr 3 0)),(.e 17 (.imm 10 (c.blocks.map encB))),(.e 18 (.sc (.I ((c.blocks.length:Nat):Int)))),(.e 19 (.sc (.I ((k:Nat):Int))))] [(2,.box 26 [(.J c.params),(.own 4 10 k),(.imm 3 (c.contexts.map encR)),(.imm 3 (c.objects.map encR))]),(3,.box 26 [(.J c.params),(.own 4 10 k),(.imm 3 (c.contexts.map encR)),(.imm 3 (c.objects.map encR))]),(4,.row 62 10 true (((c.blocks.take (k)).map sinkB).map encB))]=some ([(.e 2 (.ptr 2 0)),(.e 3 (.ptr 3 0)),(.e 17 (.imm 10 (c.blocks.map encB))),(.e 18 (.sc (.I ((c.blocks.length:Nat):Int)))),(.e 19 (.sc (.I ((k:Nat):Int))))],[(2,.box 26 [(.J c.params),(.imm 10 (((c.blocks.take (k)).map sinkB).map encB)),(.imm 3 (c.contexts.map encR)),(.imm 3 (c.objects.map encR))]),(3,.box 26 [(.J c.params),(.imm 10 (((c.blocks.take (k)).map sinkB).map encB)),(.imm 3 (c.contexts.map encR)),(.imm 3 (c.objects.map encR))])],[.b (PX.lenIs k (((c.blocks.take (k)).map sinkB).map encB)),.b (PX.lenIs k (((c.blocks.take (k)).map sinkB).map encB))])) ⟨(by simp [PX.lenIs]; omega),(by simp [PX.lenIs]; omega),trivial⟩
   refine hK32 _ _ ?_
   refine wp_ret ?_
   try simp only [Exit.then,Exit.inBlock,Nat.reduceEqDiff,↓reduceIte]
   rw [show (if R.check c (totW c.blocks)=0 then codeP (sinkD c) else codeP c)=((.agg [(.J c.params),(.imm 10 (((c.blocks.take (k)).map sinkB).map encB)),(.imm 3 (c.contexts.map encR)),(.imm 3 (c.objects.map encR))]):PX.PV) from by rw [if_pos hchk]; unfold sinkD codeP; rw [List.take_of_length_le hk]]
   exact PX.ret_s hS hE (by kernel_rfl) (by kernel_rfl) (by kernel_rfl) (.inl rfl)
end Go.Proofs.Ytlkcidmmpeebeaa
