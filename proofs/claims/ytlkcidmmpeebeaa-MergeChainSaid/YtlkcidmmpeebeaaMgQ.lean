/- Proved: what code that has passed the check keeps while blocks are joined. No program in sight. -/
import Derived.Test.YtlkcidmmpeebeaaMgE
import Derived.Test.YtlkcidmmpeebeaaUnA
import Derived.Test.YtlkcidmmpeebeaaPMgE
set_option linter.unusedVariables false
set_option linter.unusedSimpArgs false
namespace Go.Proofs.Ytlkcidmmpeebeaa
open Go.RowKit Go.PX
/-- a block whose values are distinct and which uses only its own values -/
structure MBlk (b:BlockD):Prop where
  params:0≤b.params∧b.params≤999
  dst:(∀ v∈dsts b.ops,b.params≤v∧v≤9999)∧(dsts b.ops).Nodup
  ops:∀ o∈b.ops,(R.usesA o.kind=true→o.a∈R.values b)∧(R.usesB o.kind=true→o.b∈R.values b)∧(o.sk=2→o.kind=21∧o.sv∈R.values b)
  ta:(b.term.kind==2||b.term.kind==4||b.term.kind==5)=true→b.term.a∈R.values b
  tl:(∀ v∈b.term.args,v∈R.values b)∧(∀ v∈b.term.args0,v∈R.values b)∧(∀ v∈b.term.args1,v∈R.values b)
  len:b.term.args.length≤4∧b.term.args0.length≤999∧b.term.args1.length≤999
structure MOk (c:CodeD):Prop where
  len:c.blocks.length≤400
  sum:sumO c.blocks≤6000
  blk:∀ (k:Nat) (y:BlockD),c.blocks[k]?=some y→MBlk y
  edge:∀ (k:Nat) (y:BlockD),c.blocks[k]?=some y→y.term.b0<(c.blocks.length:Int)∧y.term.b1<(c.blocks.length:Int)
  jump:∀ (k:Nat) (y:BlockD),c.blocks[k]?=some y→y.term.kind=1→0≤y.term.b0∧y.term.b1<0∧∀ x,c.blocks[y.term.b0.toNat]?=some x→x.params=(y.term.args0.length:Int)
theorem sumO_nn (l:List BlockD):0≤sumO l:=by
  induction l with
  | nil=>simp [sumO]
  | cons b l ih=>simp only [sumO,List.map_cons,List.sum_cons] at ih ⊢; omega
theorem sumO_mem:∀ {l:List BlockD} {b:BlockD},b∈l→(b.ops.length:Int)≤sumO l
  | x::l,b,h=>by
    have:=sumO_nn l
    rcases List.mem_cons.1 h with rfl | h
    · simp only [sumO,List.map_cons,List.sum_cons] at this ⊢; omega
    · have:=sumO_mem h
      simp only [sumO,List.map_cons,List.sum_cons] at this ⊢; omega
theorem mtop {b:BlockD} (h:MBlk b):-1≤topD b∧topD b≤9999:=by
  have hp:=h.params
  refine mx_bd _ _ (by omega) (by omega) fun v hv=>?_
  rw [values_eq2,List.mem_append] at hv
  rcases hv with hv | hv
  · unfold R.upto at hv
    obtain ⟨i,hi,rfl⟩:=List.mem_map.1 hv
    have:=List.mem_range.1 hi
    omega
  · exact (h.dst.1 v hv).2
theorem jok_of {c:CodeD} (h:MOk c):JOk c:=by
  refine ⟨h.len,fun k y hy=>?_,fun k y hy=>?_⟩
  · have hb:=h.blk k y hy
    have:=sumO_mem (List.mem_of_getElem? hy)
    have:=h.sum
    exact ⟨hb.params,by omega,hb.len,mtop hb⟩
  · by_cases h1:y.term.kind=1
    · obtain ⟨q1,_,_⟩:=h.jump k y hy h1
      have:=(h.edge k y hy).1
      obtain ⟨x,hx⟩:=get_of_lt (l:=c.blocks) (k:=y.term.b0.toNat) (by omega)
      exact ⟨x,_,hx,fun _=>by omega⟩
    · exact ⟨y,k,hy,fun q=>absurd q h1⟩
theorem none_ok {blk:Int} {args:List Int} (h:R.none_ blk args=true):blk=-1∧args=[]:=by
  unfold R.none_ at h
  simp only [Bool.and_eq_true,beq_iff_eq,List.length_eq_zero_iff] at h
  exact h
/-- both edges of a terminator -/
theorem edges_ok {c:CodeD} {b:BlockD} (h:R.term c b=true) :
    (b.term.b0<(c.blocks.length:Int)∧∀ v∈b.term.args0,R.has (R.values b) v=true)∧(b.term.b1<(c.blocks.length:Int)∧∀ v∈b.term.args1,R.has (R.values b) v=true)∧(b.term.kind=1→b.term.b1=-1):=by
  have e1:∀ {blk:Int} {args:List Int} {m:Int},R.edge c blk args (R.values b) m=true→blk<(c.blocks.length:Int)∧∀ v∈args,R.has (R.values b) v=true:=fun q=>⟨(edge_ok q).2.1,(edge_ok q).2.2.2⟩
  have e2:∀ {blk:Int} {args:List Int},R.none_ blk args=true→blk<(c.blocks.length:Int)∧∀ v∈args,R.has (R.values b) v=true:=fun q=>by
    obtain ⟨q1,q2⟩:=none_ok q
    exact ⟨by omega,fun v hv=>by rw [q2] at hv; cases hv⟩
  unfold R.term at h
  simp only at h
  split at h
  · cases h
  split at h
  · cases h
  split at h
  · rename_i hk
    simp only [Bool.and_eq_true] at h
    exact ⟨e1 h.1,e2 h.2,fun _=>(none_ok h.2).1⟩
  rename_i hk
  have hk1:b.term.kind=1→b.term.b1=-1:=fun q=>by rw [q] at hk; exact absurd rfl hk
  split at h
  · simp only [Bool.and_eq_true] at h
    exact ⟨e1 h.1,e1 h.2,hk1⟩
  split at h
  · simp only [Bool.and_eq_true,Bool.or_eq_true] at h
    exact ⟨e1 h.1,h.2.elim e2 e1,hk1⟩
  split at h
  · simp only [Bool.and_eq_true] at h
    exact ⟨e2 h.1,e2 h.2,hk1⟩
  · cases h
theorem plain_src {o:OpD} (h:R.plain o=true) (hs:o.sk=2):o.kind=21:=by
  unfold R.plain at h
  simp only at h
  split at h
  · cases h
  split at h
  · cases h
  rw [hs] at h
  simpa using h
theorem tail_src {c:CodeD} {all:List Int} {o:OpD} (h:R.tail c all o=true) (hk:o.kind=21) (hs:o.sk=2):R.has all o.sv=true:=by
  unfold R.tail at h
  rw [hk] at h
  simp only [Int.reduceBEq,Bool.or_self,Bool.false_eq_true,if_false,if_true,Bool.and_eq_true] at h
  have:=h.2
  unfold R.source at this
  rw [hs] at this
  simpa using this
theorem sumO_le:∀ {l:List BlockD},(∀ b∈l,b.ops.length≤6000)→sumO l≤6000*(l.length:Int)
  | [],_=>by simp [sumO]
  | b::l,h=>by
    have h1:=h b (by simp)
    have h2:=sumO_le (l:=l) fun x hx=>h x (by simp [hx])
    simp only [sumO,List.map_cons,List.sum_cons,List.length_cons] at h2 ⊢; omega
theorem sum_ok {c:CodeD} (hf:Fit c) (hc:R.check c (totW c.blocks)=0):sumO c.blocks≤6000:=by
  have h1:=sumO_le hf.ops
  have h2:=hf.blocks
  have h3:=sumO_nn c.blocks
  have e:totW c.blocks=sumO c.blocks:=by rw [totW_sum]; exact IntWalk.i64_in _ (by omega)
  unfold R.check at hc
  split at hc
  · cases hc
  rename_i q
  simp only [Bool.or_eq_true,decide_eq_true_eq,not_or,Int.not_lt] at q
  omega
theorem mok_of {c:CodeD} (hi:CodeI c) (hc:R.check c (totW c.blocks)=0):MOk c:=by
  have hf:=fit_of hi hc
  refine ⟨hf.blocks,?_,fun k y hy=>?_,fun k y hy=>?_,fun k y hy hk=>?_⟩
  · exact sum_ok hf hc
  · have ok:=blk_ok hc hy
    have ht:=term_ok ok.term
    have he:=edges_ok ok.term
    have hv:∀ {v:Int},R.has (R.values y) v=true→v∈R.values y:=fun q=>(has_iff _ _).1 q
    refine ⟨ok.params,dsts_ok ok,fun o ho=>?_,fun q=>hv (ht.a q),⟨fun v q=>hv (ht.args v q),fun v q=>hv (he.1.2 v q),fun v q=>hv (he.2.1.2 v q)⟩,hf.term y (List.mem_of_getElem? hy)⟩
    obtain ⟨_,q2,q3,q4,q5⟩:=opsFrom_each ok.ops o ho
    exact ⟨q3,q4,fun q=>⟨plain_src q2 q,hv (tail_src q5 (plain_src q2 q) q)⟩⟩
  · have he:=edges_ok (blk_ok hc hy).term
    exact ⟨he.1.1,he.2.1.1⟩
  · have he:=edges_ok (blk_ok hc hy).term
    obtain ⟨q1,q2,q3,_⟩:=edge_ok ((term_ok (blk_ok hc hy).term).jump hk)
    refine ⟨by omega,by rw [he.2.2 hk]; omega,fun x hx=>?_⟩
    unfold R.paramsAt at q3
    rw [hx] at q3
    simpa using q3.symm
end Go.Proofs.Ytlkcidmmpeebeaa

/- Proved: a joined block keeps its values distinct and uses its own values. No program in sight. -/
namespace Go.Proofs.Ytlkcidmmpeebeaa
open Go.RowKit Go.PX
section
variable {y x:BlockD}
theorem nmJ_eq (y x:BlockD):nmJ y x=argsN y.term.args0++(dsts x.ops).zipIdx.map (fun p=>(p.1,topD y+1+((p.2:Nat):Int))):=by
  unfold nmJ nmK; rw [List.take_of_length_le (Nat.le_refl _)]
theorem nm_dst (hx:MBlk x) (hp:x.params=(y.term.args0.length:Int)) {i:Nat} {v:Int} (hv:(dsts x.ops)[i]?=some v):nameOf (nmJ y x) v=topD y+1+(i:Int):=by
  obtain ⟨hi,hvi⟩:=List.getElem?_eq_some_iff.1 hv
  have hm:v∈dsts x.ops:=List.mem_of_getElem? hv
  have hge:=(hx.dst.1 v hm).1
  have e:(nmJ y x).find? (fun p=>p.1==v)=some (v,topD y+1+(i:Int)):=by
    rw [nmJ_eq,List.find?_append]
    have h1:(argsN y.term.args0).find? (fun p=>p.1==v)=none:=by
      rw [List.find?_eq_none]
      intro p hpm
      have:=keys_args hpm
      simp only [beq_iff_eq]; omega
    rw [h1,Option.none_or,List.find?_eq_some_iff_getElem]
    refine ⟨by simp,i,by simpa using hi,by simp [hvi],fun j hj=>?_⟩
    have hj':j<(dsts x.ops).length:=by omega
    simp only [List.getElem_map,List.getElem_zipIdx,Bool.not_eq_true',beq_eq_false_iff_ne,ne_eq]
    intro q
    have:=(List.getElem_inj (i:=j) (j:=i) (h₀:=hj') (h₁:=hi) hx.dst.2).1 (by rw [hvi]; exact q)
    omega
  unfold nameOf; rw [e]
theorem dsts_ren (nm:List (Int × Int)) (ops:List OpD):dsts (ops.map (renO_ nm))=(dsts ops).map (nameOf nm):=by
  induction ops with
  | nil=>rfl
  | cons o ops ih =>
    unfold dsts at ih ⊢
    simp only [List.map_cons,List.filter_cons]
    have hk:(renO_ nm o).kind=o.kind:=rfl
    rw [hk]
    cases hd:R.defines o.kind with
    | false=>simpa using ih
    | true =>
      simp only [if_true,List.map_cons,ih]
      congr 1
      unfold renO_; rw [if_pos hd]
theorem dsts_app (a b:List OpD):dsts (a++b)=dsts a++dsts b:=by unfold dsts; rw [List.filter_append,List.map_append]
theorem new_dsts (hx:MBlk x) (hp:x.params=(y.term.args0.length:Int)):(dsts x.ops).map (nameOf (nmJ y x))=(List.range (dsts x.ops).length).map (fun i:Nat=>topD y+1+(i:Int)):=by
  refine List.ext_getElem? fun i=>?_
  rcases Nat.lt_or_ge i (dsts x.ops).length with hi | hi
  · rw [List.getElem?_map,List.getElem?_map,List.getElem?_eq_getElem hi,List.getElem?_range hi]
    simp only [Option.map_some]
    rw [nm_dst hx hp (List.getElem?_eq_getElem hi)]
  · rw [List.getElem?_eq_none (by simpa using hi),List.getElem?_eq_none (by simpa using hi)]
theorem values_join (hx:MBlk x) (hp:x.params=(y.term.args0.length:Int)):R.values (joinD y x)=R.values y++(List.range (dsts x.ops).length).map (fun i:Nat=>topD y+1+(i:Int)):=by
  rw [values_eq2,values_eq2]
  show R.upto y.params++dsts (y.ops++x.ops.map (renO_ (nmJ y x)))=_
  rw [dsts_app,dsts_ren,new_dsts hx hp,List.append_assoc]
theorem top_ge {b:BlockD} {v:Int} (h:v∈R.values b):v≤topD b:=by
  unfold topD
  have key:∀ (l:List Int) (n:Int),n≤l.foldl mx n∧∀ v∈l,v≤l.foldl mx n:=by
    intro l
    induction l with
    | nil=>exact fun n=>⟨Int.le_refl _,fun v hv=>by cases hv⟩
    | cons z l ih =>
      intro n
      obtain ⟨i1,i2⟩:=ih (mx n z)
      have hm:n≤mx n z∧z≤mx n z:=by unfold mx; split <;> omega
      refine ⟨by rw [List.foldl_cons]; omega,fun v hv=>?_⟩
      rw [List.foldl_cons]
      rcases List.mem_cons.1 hv with rfl | hv
      · omega
      · exact i2 v hv
  exact (key _ _).2 v h
theorem name_in (hy:MBlk y) (hx:MBlk x) (hp:x.params=(y.term.args0.length:Int)) {v:Int} (hv:v∈R.values x):nameOf (nmJ y x) v∈R.values (joinD y x):=by
  rw [values_join hx hp,List.mem_append]
  rw [values_eq2,List.mem_append] at hv
  rcases hv with hv | hv
  · left
    unfold R.upto at hv
    obtain ⟨i,hi,rfl⟩:=List.mem_map.1 hv
    have hi:=List.mem_range.1 hi
    have hil:i<y.term.args0.length:=by omega
    have hm:(((i:Nat):Int),y.term.args0[i])∈argsN y.term.args0:=by
      unfold argsN
      exact List.mem_map.2 ⟨(y.term.args0[i],i),by rw [List.mk_mem_zipIdx_iff_getElem?]; exact List.getElem?_eq_getElem hil,rfl⟩
    have hs:((argsN y.term.args0).find? (fun p=>p.1==((i:Nat):Int))).isSome=true:=by
      rw [List.find?_isSome]; exact ⟨_,hm,by simp⟩
    obtain ⟨p,hpf⟩:=Option.isSome_iff_exists.1 hs
    have:nameOf (nmJ y x) ((i:Nat):Int)=p.2:=by
      unfold nameOf; rw [nmJ_eq,List.find?_append,hpf]; rfl
    rw [this]
    have hpm:=List.mem_of_find?_eq_some hpf
    unfold argsN at hpm
    obtain ⟨q,hq,rfl⟩:=List.mem_map.1 hpm
    refine hy.tl.2.1 _ ?_
    have:=List.mem_zipIdx' hq
    exact this.2 ▸ List.getElem_mem _
  · right
    obtain ⟨i,hi,hiv⟩:=List.getElem_of_mem hv
    rw [← hiv,nm_dst hx hp (List.getElem?_eq_getElem hi)]
    exact List.mem_map.2 ⟨i,List.mem_range.2 hi,rfl⟩
theorem top_low (b:BlockD):b.params-1≤topD b:=by
  unfold topD
  have key:∀ (l:List Int) (n:Int),n≤l.foldl mx n:=by
    intro l
    induction l with
    | nil=>exact fun n=>Int.le_refl _
    | cons z l ih =>
      intro n
      have:=ih (mx n z)
      have hm:n≤mx n z:=by unfold mx; split <;> omega
      rw [List.foldl_cons]; omega
  exact key _ _
theorem mblk_join (hy:MBlk y) (hx:MBlk x) (hp:x.params=(y.term.args0.length:Int)) (hok:joinOk y x=true):MBlk (joinD y x):=by
  have hv:=values_join hx hp
  have hsub:∀ {v:Int},v∈R.values y→v∈R.values (joinD y x):=fun q=>by rw [hv]; exact List.mem_append.2 (.inl q)
  have hn:∀ {v:Int},v∈R.values x→nameOf (nmJ y x) v∈R.values (joinD y x):=fun q=>name_in hy hx hp q
  have hcnt:topD y+1+((dsts x.ops).length:Int)≤10000:=by
    have:=of_decide_eq_true hok
    unfold numK at this
    rwa [List.take_of_length_le (Nat.le_refl _)] at this
  have hd:dsts (joinD y x).ops=dsts y.ops++(List.range (dsts x.ops).length).map (fun i:Nat=>topD y+1+(i:Int)):=by
    show dsts (y.ops++x.ops.map (renO_ (nmJ y x)))=_
    rw [dsts_app,dsts_ren,new_dsts hx hp]
  have hlow:=top_low y
  refine ⟨hy.params,⟨fun v q=>?_,?_⟩,fun o q=>?_,fun q=>?_,⟨fun v q=>?_,fun v q=>?_,fun v q=>?_⟩,?_⟩
  · rw [hd,List.mem_append] at q
    show y.params≤v∧v≤9999
    rcases q with q | q
    · exact hy.dst.1 v q
    · obtain ⟨i,hi,rfl⟩:=List.mem_map.1 q
      have:=List.mem_range.1 hi
      omega
  · rw [hd,List.nodup_append]
    refine ⟨hy.dst.2,?_,fun a ha b hb e=>?_⟩
    · rw [List.Nodup,List.pairwise_map]
      exact (List.nodup_range (n:=(dsts x.ops).length)).imp fun {a b} h q=>h (by omega)
    · obtain ⟨i,_,rfl⟩:=List.mem_map.1 hb
      have:a≤topD y:=top_ge (by rw [values_eq2]; exact List.mem_append.2 (.inr ha))
      omega
  · rcases List.mem_append.1 (show o∈y.ops++x.ops.map (renO_ (nmJ y x)) from q) with q | q
    · obtain ⟨q1,q2,q3⟩:=hy.ops o q
      exact ⟨fun h=>hsub (q1 h),fun h=>hsub (q2 h),fun h=>⟨(q3 h).1,hsub (q3 h).2⟩⟩
    · obtain ⟨o',ho',rfl⟩:=List.mem_map.1 q
      obtain ⟨q1,q2,q3⟩:=hx.ops o' ho'
      refine ⟨fun h=>?_,fun h=>?_,fun h=>⟨(q3 h).1,?_⟩⟩
      · have h':R.usesA o'.kind=true:=h
        have:=hn (q1 h')
        unfold renO_; simp only [h',if_true]; exact this
      · have h':R.usesB o'.kind=true:=h
        have:=hn (q2 h')
        unfold renO_; simp only [h',if_true]; exact this
      · have h':o'.sk=2:=h
        have:=hn (q3 h').2
        unfold renO_; simp only [h',beq_self_eq_true,if_true]; exact this
  · have q':((x.term.kind==2)||(x.term.kind==4)||(x.term.kind==5))=true:=q
    have:=hn (hx.ta q')
    show (renT_ (nmJ y x) x.term).a∈_
    unfold renT_; simp only [q',if_true]; exact this
  · obtain ⟨u,hu,rfl⟩:=List.mem_map.1 (show v∈x.term.args.map (nameOf (nmJ y x)) from q)
    exact hn (hx.tl.1 u hu)
  · obtain ⟨u,hu,rfl⟩:=List.mem_map.1 (show v∈x.term.args0.map (nameOf (nmJ y x)) from q)
    exact hn (hx.tl.2.1 u hu)
  · obtain ⟨u,hu,rfl⟩:=List.mem_map.1 (show v∈x.term.args1.map (nameOf (nmJ y x)) from q)
    exact hn (hx.tl.2.2 u hu)
  · show (x.term.args.map _).length≤4∧(x.term.args0.map _).length≤999∧(x.term.args1.map _).length≤999
    simpa using hx.len
theorem mblk_dec {b:BlockD} (t:Int) (h:MBlk b):MBlk (decB t b):=⟨h.params,h.dst,h.ops,h.ta,h.tl,h.len⟩
end
end Go.Proofs.Ytlkcidmmpeebeaa

/- Proved: what the check gives stays while blocks are joined (MOk is kept by a step). No program in sight. -/
namespace Go.Proofs.Ytlkcidmmpeebeaa
open Go.RowKit Go.PX
/-- how many edges of a block lead to t -/
def edT (t:Int) (b:BlockD):Nat:=(if b.term.b0=t then 1 else 0)+(if b.term.b1=t then 1 else 0)
def cntT (t:Int) (l:List BlockD):Nat:=(l.map (edT t)).sum
theorem edT_le (t:Int) (b:BlockD):edT t b≤2:=by unfold edT; split <;> split <;> omega
theorem cntT_le (t:Int):∀ l:List BlockD,cntT t l≤2*l.length
  | []=>by simp [cntT]
  | b::l=>by
    have:=cntT_le t l
    have:=edT_le t b
    simp only [cntT,List.map_cons,List.sum_cons,List.length_cons] at *; omega
theorem edgesK_cnt (c:CodeD) (t:Int) (hl:c.blocks.length≤400):∀ k,k≤c.blocks.length→edgesK c t k=((cntT t (c.blocks.take k):Nat):Int)
  | 0,_=>by simp [edgesK,cntT]
  | k+1,h=>by
    obtain ⟨y,hy⟩:=get_of_lt (show k<c.blocks.length by omega)
    rw [edgesK_succ hy,edgesK_cnt c t hl k (by omega),List.take_add_one,hy]
    have e:cntT t (c.blocks.take k++(some y).toList)=cntT t (c.blocks.take k)+edT t y:=by
      unfold cntT; rw [List.map_append,List.sum_append]; simp
    have:=cntT_le t (c.blocks.take k)
    have hlk:(c.blocks.take k).length≤k:=by rw [List.length_take]; omega
    rw [e]
    unfold stepE edT
    have w1:IntKind.i64.wrap (((cntT t (c.blocks.take k):Nat):Int)+1)=((cntT t (c.blocks.take k):Nat):Int)+1:=IntWalk.i64_in _ (by omega)
    have w2:IntKind.i64.wrap (((cntT t (c.blocks.take k):Nat):Int)+1+1)=((cntT t (c.blocks.take k):Nat):Int)+1+1:=IntWalk.i64_in _ (by omega)
    by_cases h0:y.term.b0=t <;> by_cases h1:y.term.b1=t <;> simp [h0,h1,w1,w2] <;> omega
theorem sum_two {f:BlockD→Nat}:∀ {l:List BlockD} {i k:Nat} {a b:BlockD},i≠k→l[i]?=some a→l[k]?=some b→f a+f b≤(l.map f).sum
  | [],i,k,a,b,_,h,_=>by simp at h
  | z::l,0,0,a,b,h,_,_=>absurd rfl h
  | z::l,0,k+1,a,b,_,ha,hb=>by
    simp only [List.getElem?_cons_zero,Option.some.injEq] at ha; subst ha
    have hb:l[k]?=some b:=by simpa using hb
    have:=sum_one (f:=f) hb
    simp only [List.map_cons,List.sum_cons]; omega
  | z::l,i+1,0,a,b,_,ha,hb=>by
    simp only [List.getElem?_cons_zero,Option.some.injEq] at hb; subst hb
    have ha:l[i]?=some a:=by simpa using ha
    have:=sum_one (f:=f) ha
    simp only [List.map_cons,List.sum_cons]; omega
  | z::l,i+1,k+1,a,b,h,ha,hb=>by
    have:=sum_two (f:=f) (l:=l) (i:=i) (k:=k) (by omega) (by simpa using ha) (by simpa using hb)
    simp only [List.map_cons,List.sum_cons]; omega
where sum_one {f:BlockD→Nat}:∀ {l:List BlockD} {i:Nat} {a:BlockD},l[i]?=some a→f a≤(l.map f).sum
  | [],i,a,h=>by simp at h
  | z::l,0,a,h=>by simp only [List.getElem?_cons_zero,Option.some.injEq] at h; subst h; simp
  | z::l,i+1,a,h=>by
    have:=sum_one (f:=f) (l:=l) (i:=i) (a:=a) (by simpa using h)
    simp only [List.map_cons,List.sum_cons]; omega
/-- the one edge to t is that of block k -/
theorem lone_edge {c:CodeD} {t:Int} {k:Nat} {y:BlockD} (hl:c.blocks.length≤400) (hy:c.blocks[k]?=some y) (h0:y.term.b0=t) (h1:edgesK c t c.blocks.length=1):y.term.b1≠t∧∀ i z,c.blocks[i]?=some z→i≠k→z.term.b0≠t∧z.term.b1≠t:=by
  rw [edgesK_cnt c t hl _ (Nat.le_refl _),List.take_of_length_le (Nat.le_refl _)] at h1
  have e1:cntT t c.blocks=1:=by omega
  have hy1:1≤edT t y:=by unfold edT; rw [if_pos h0]; omega
  have hs:=sum_two.sum_one (f:=edT t) hy
  unfold cntT at e1
  refine ⟨fun q=>?_,fun i z hz hi=>?_⟩
  · unfold edT at hs; rw [if_pos h0,if_pos q] at hs; unfold edT at e1; omega
  · have:=sum_two (f:=edT t) hi hz hy
    have hz0:edT t z=0:=by omega
    unfold edT at hz0
    constructor <;> intro q <;> rw [if_pos q] at hz0 <;> omega
/-- the blocks behind a removal -/
theorem rem_get {c:CodeD} {t:Int} {i:Nat} {z':BlockD} (h:(remD c t).blocks[i]?=some z'):∃ i0 z,c.blocks[i0]?=some z∧z'=decB t z∧i0≠t.toNat:=by
  have h:((c.blocks.take c.blocks.length).eraseIdx t.toNat |>.map (decB t))[i]?=some z':=h
  rw [List.take_of_length_le (Nat.le_refl _),List.getElem?_map,List.getElem?_eraseIdx] at h
  split at h
  · rename_i hi
    obtain ⟨z,hz,rfl⟩:=Option.map_eq_some_iff.1 h
    exact ⟨i,z,hz,rfl,by omega⟩
  · obtain ⟨z,hz,rfl⟩:=Option.map_eq_some_iff.1 h
    exact ⟨i+1,z,hz,rfl,by omega⟩
theorem rem_at {c:CodeD} {t:Int} {i0:Nat} (h:i0≠t.toNat):(remD c t).blocks[if i0<t.toNat then i0 else i0-1]?=(c.blocks[i0]?).map (decB t):=by
  show ((c.blocks.take c.blocks.length).eraseIdx t.toNat |>.map (decB t))[_]?=_
  rw [List.take_of_length_le (Nat.le_refl _),List.getElem?_map,List.getElem?_eraseIdx]
  by_cases h1:i0<t.toNat
  · rw [if_pos h1,if_pos h1]
  · rw [if_neg h1,if_neg (by omega),show i0-1+1=i0 by omega]
end Go.Proofs.Ytlkcidmmpeebeaa

/- Proved: joining one pair keeps MOk. No program in sight. -/
namespace Go.Proofs.Ytlkcidmmpeebeaa
open Go.RowKit Go.PX
theorem one_inv {c d:CodeD} (h:oneD c=some d):∃ k y x,c.blocks[k]?=some y∧c.blocks[y.term.b0.toNat]?=some x∧y.term.kind=1∧y.term.b0≠((k:Nat):Int)∧edgesK c y.term.b0 c.blocks.length=1∧joinOk y x=true∧d=oneK c k y x:=by
  unfold oneD at h
  split at h
  · cases h
  split at h
  · cases h
  rename_i _ k hk _ y hy
  split at h
  · cases h
  rename_i _ x hx
  injection h with h
  have q:=List.find?_some hk
  simp only [hy,hx,Bool.not_eq_true',stayD,stayT,Bool.or_eq_false_iff,bne_eq_false_iff_eq,beq_eq_false_iff_ne,Bool.not_eq_false'] at q
  obtain ⟨⟨⟨q1,q2⟩,q3⟩,q4⟩:=q
  exact ⟨k,y,x,hy,hx,q1,q2,q3,by simpa using q4,h.symm⟩
theorem sumO_erase:∀ {l:List BlockD} {i:Nat} {a:BlockD},l[i]?=some a→sumO (l.eraseIdx i)=sumO l-(a.ops.length:Int)
  | [],i,a,h=>by simp at h
  | z::l,0,a,h=>by
    simp only [List.getElem?_cons_zero,Option.some.injEq] at h; subst h
    simp only [List.eraseIdx_cons_zero,sumO,List.map_cons,List.sum_cons]; omega
  | z::l,i+1,a,h=>by
    have:=sumO_erase (l:=l) (i:=i) (a:=a) (by simpa using h)
    simp only [sumO] at this
    simp only [List.eraseIdx_cons_succ,sumO,List.map_cons,List.sum_cons,this]; omega
theorem sumO_dec (t:Int) (l:List BlockD):sumO (l.map (decB t))=sumO l:=by
  unfold sumO; rw [List.map_map]; rfl
theorem decE_hi {t x:Int} (h:t<x) (h0:0≤t) (hx:x≤1000000):decE t x=x-1:=by
  unfold decE; rw [if_pos (decide_eq_true h)]; exact IntWalk.i64_in _ (by omega)
theorem decE_lo {t x:Int} (h:¬ t<x):decE t x=x:=by
  unfold decE; rw [if_neg (by simpa using h)]
theorem mok_one {c d:CodeD} (hM:MOk c) (h:oneD c=some d):MOk d:=by
  obtain ⟨k,y,x,hy,hx,hk1,hne,hcnt,hok,rfl⟩:=one_inv h
  have hkl:=(List.getElem?_eq_some_iff.1 hy).1
  have hlen:=hM.len
  obtain ⟨t,ht⟩:∃ t,t=y.term.b0:=⟨_,rfl⟩
  rw [← ht] at hx hne hcnt
  obtain ⟨hj0,hj1,hj2⟩:=hM.jump k y hy hk1
  have htl:=(hM.edge k y hy).1
  rw [← ht] at hj0 hj2 htl
  have hxp:=hj2 x hx
  obtain ⟨hlb,hlone⟩:=lone_edge hlen hy ht.symm hcnt
  have htk:t.toNat≠k:=fun q=>hne (by omega)
  have hd:oneK c k y x=remD { c with blocks:=c.blocks.set k (joinD y x) } t:=by unfold oneK; rw [ht]
  rw [hd]
  obtain ⟨S,hS⟩:∃ S,S=c.blocks.set k (joinD y x):=⟨_,rfl⟩
  have hSl:S.length=c.blocks.length:=by rw [hS,List.length_set]
  rw [← hS]
  have hrl:=remD_len (c:={ c with blocks:=S }) hj0 (by show t<(S.length:Int); omega)
  simp only at hrl
  -- a block of S that is not t
  have hz:∀ (i:Nat) (z:BlockD),S[i]?=some z→i≠t.toNat→∃ z0:BlockD,MBlk z∧(∃ i1:Nat,c.blocks[i1]?=some z0)∧z.term.b0=z0.term.b0∧z.term.b1=z0.term.b1∧z.term.kind=z0.term.kind∧z.term.args0.length=z0.term.args0.length∧z.term.b0≠t∧z.term.b1≠t:=by
    intro i z hzi hi
    by_cases hik:i=k
    · subst hik
      rw [hS,List.getElem?_set_self hkl] at hzi
      injection hzi with hzi; subst hzi
      obtain ⟨q1,q2⟩:=hlone _ x hx htk
      refine ⟨x,mblk_join (hM.blk _ y hy) (hM.blk _ x hx) hxp hok,⟨_,hx⟩,rfl,rfl,rfl,?_,q1,q2⟩
      show (x.term.args0.map _).length=_
      simp
    · rw [hS,List.getElem?_set_ne (by omega)] at hzi
      obtain ⟨q1,q2⟩:=hlone i z hzi hik
      exact ⟨z,hM.blk i z hzi,⟨i,hzi⟩,rfl,rfl,rfl,rfl,q1,q2⟩
  have hpar:∀ (i:Nat) (z:BlockD),S[i]?=some z→∃ z0:BlockD,c.blocks[i]?=some z0∧z.params=z0.params:=by
    intro i z hzi
    by_cases hik:i=k
    · subst hik
      rw [hS,List.getElem?_set_self hkl] at hzi
      injection hzi with hzi; subst hzi
      exact ⟨y,hy,rfl⟩
    · rw [hS,List.getElem?_set_ne (by omega)] at hzi
      exact ⟨z,hzi,rfl⟩
  refine ⟨by omega,?_,fun i z' hi=>?_,fun i z' hi=>?_,fun i z' hi hk'=>?_⟩
  · show sumO ((S.take S.length).eraseIdx t.toNat |>.map (decB t))≤6000
    have hxS:S[t.toNat]?=some x:=by rw [hS,List.getElem?_set_ne (by omega)]; exact hx
    rw [List.take_of_length_le (Nat.le_refl _),sumO_dec,sumO_erase hxS,hS,sumO_set _ hy]
    have e:(joinD y x).ops.length=y.ops.length+x.ops.length:=by show (y.ops++x.ops.map _).length=_; simp
    have:=hM.sum
    rw [e]; omega
  · obtain ⟨i0,z,h0,rfl,hne0⟩:=rem_get hi
    obtain ⟨z0,hb,_⟩:=hz i0 z h0 hne0
    exact mblk_dec t hb
  · obtain ⟨i0,z,h0,rfl,hne0⟩:=rem_get hi
    obtain ⟨z0,hb,⟨i1,hi1⟩,e0,e1,_,_,n0,n1⟩:=hz i0 z h0 hne0
    have he:=hM.edge i1 z0 hi1
    show decE t z.term.b0<_∧decE t z.term.b1<_
    constructor
    · by_cases q:t<z.term.b0
      · rw [decE_hi q hj0 (by omega)]; omega
      · rw [decE_lo q]; omega
    · by_cases q:t<z.term.b1
      · rw [decE_hi q hj0 (by omega)]; omega
      · rw [decE_lo q]; omega
  · obtain ⟨i0,z,h0,rfl,hne0⟩:=rem_get hi
    obtain ⟨z0,hb,⟨i1,hi1⟩,e0,e1,e2,e3,n0,n1⟩:=hz i0 z h0 hne0
    have hk0:z0.term.kind=1:=by rw [← e2]; exact hk'
    obtain ⟨j0,j1,j2⟩:=hM.jump i1 z0 hi1 hk0
    have he:=(hM.edge i1 z0 hi1).1
    rw [← e0] at j0 j2 he
    rw [← e1] at j1
    show 0≤decE t z.term.b0∧decE t z.term.b1<0∧∀ x':BlockD,_→x'.params=(z.term.args0.length:Int)
    have hidx:(decE t z.term.b0).toNat=if z.term.b0.toNat<t.toNat then z.term.b0.toNat else z.term.b0.toNat-1:=by
      by_cases q:t<z.term.b0
      · rw [decE_hi q hj0 (by omega),if_neg (by omega)]; omega
      · rw [decE_lo q,if_pos (by omega)]
    refine ⟨?_,by rw [decE_lo (by omega)]; exact j1,fun x' hx'=>?_⟩
    · by_cases q:t<z.term.b0
      · rw [decE_hi q hj0 (by omega)]; omega
      · rw [decE_lo q]; exact j0
    · have hx':(remD { c with blocks:=S } t).blocks[(decE t z.term.b0).toNat]?=some x':=hx'
      rw [hidx,rem_at (by omega)] at hx'
      obtain ⟨w,hw,rfl⟩:=Option.map_eq_some_iff.1 hx'
      obtain ⟨w0,hw0,ep⟩:=hpar _ w hw
      show w.params=_
      rw [ep,j2 w0 hw0,e3]
end Go.Proofs.Ytlkcidmmpeebeaa

/- Proved: merge's join by a map is the document's join by names,where MOk holds. No program in sight. -/
namespace Go.Proofs.Ytlkcidmmpeebeaa
open Go.RowKit Go.PX
/-- an operation whose values are looked up in a map -/
def renMO (D:List (Int × Int)) (o:OpD):OpD:={ o with dst:=if R.defines o.kind=true then valD D o.dst else o.dst,a:=if R.usesA o.kind=true then valD D o.a else o.a,b:=if R.usesB o.kind=true then valD D o.b else o.b,sv:=if (o.kind==21&&o.sk==2)=true then valD D o.sv else o.sv }
def renMT (D:List (Int × Int)) (t:TermD):TermD:={ t with a:=if (((t.kind==2)||(t.kind==4))||(t.kind==5))=true then valD D t.a else t.a,args:=t.args.map (valD D),args0:=t.args0.map (valD D),args1:=t.args1.map (valD D) }
def joinM (y x:BlockD):BlockD:={ params:=y.params,ops:=y.ops++x.ops.map (renMO (nmJ y x)),term:=renMT (nmJ y x) x.term }
section
variable {y x:BlockD}
theorem val_name (hp:x.params=(y.term.args0.length:Int)) {v:Int} (hv:v∈R.values x):valD (nmJ y x) v=nameOf (nmJ y x) v:=find_has hp ((has_iff _ _).2 hv)
theorem renMO_eq (hx:MBlk x) (hp:x.params=(y.term.args0.length:Int)) {o:OpD} (ho:o∈x.ops):renMO (nmJ y x) o=renO_ (nmJ y x) o:=by
  obtain ⟨q1,q2,q3⟩:=hx.ops o ho
  unfold renMO renO_
  congr 1
  · split
    · rename_i h
      refine val_name hp ?_
      rw [values_eq2,List.mem_append]
      right
      unfold dsts
      exact List.mem_map.2 ⟨o,List.mem_filter.2 ⟨ho,h⟩,rfl⟩
    · rfl
  · split
    · rename_i h; exact val_name hp (q1 h)
    · rfl
  · split
    · rename_i h; exact val_name hp (q2 h)
    · rfl
  · by_cases h:o.sk=2
    · obtain ⟨h1,h2⟩:=q3 h
      rw [if_pos (by rw [h,h1]; rfl),if_pos (by rw [h]; rfl)]
      exact val_name hp h2
    · have e:(o.sk==2)=false:=by simpa using h
      rw [e,Bool.and_false]
      rfl
theorem renMT_eq (hx:MBlk x) (hp:x.params=(y.term.args0.length:Int)):renMT (nmJ y x) x.term=renT_ (nmJ y x) x.term:=by
  have hl:∀ l:List Int,(∀ v∈l,v∈R.values x)→l.map (valD (nmJ y x))=l.map (nameOf (nmJ y x)):=fun l h=>List.map_congr_left fun v hv=>val_name hp (h v hv)
  unfold renMT renT_
  rw [hl _ hx.tl.1,hl _ hx.tl.2.1,hl _ hx.tl.2.2]
  congr 1
  split
  · rename_i h; exact val_name hp (hx.ta h)
  · rfl
theorem joinM_eq (hx:MBlk x) (hp:x.params=(y.term.args0.length:Int)):joinM y x=joinD y x:=by
  unfold joinM joinD
  rw [renMT_eq hx hp,List.map_congr_left fun o ho=>renMO_eq hx hp ho]
end
/-- one step of merge.Merge,as the program takes it -/
def stepM (c:CodeD):Option CodeD :=
  match oneI c with
  | none=>none
  | some k=>match c.blocks[k]? with
    | none=>none
    | some y=>match c.blocks[y.term.b0.toNat]? with
      | none=>none
      | some x=>some (remD { c with blocks:=c.blocks.set k (joinM y x) } y.term.b0)
theorem oneD_I (c:CodeD):oneD c=(match oneI c with | none=>none | some k=>match c.blocks[k]? with | none=>none | some y=>match c.blocks[y.term.b0.toNat]? with | none=>none | some x=>some (oneK c k y x)):=rfl
theorem stepM_eq {c:CodeD} (hM:MOk c):stepM c=oneD c:=by
  rw [oneD_I]
  unfold stepM
  cases ho:oneI c with
  | none=>rfl
  | some k =>
    have ho':=ho
    unfold oneI at ho'
    have q:=List.find?_some ho'
    simp only
    cases hy:c.blocks[k]? with
    | none=>rfl
    | some y =>
      simp only
      cases hx:c.blocks[y.term.b0.toNat]? with
      | none=>rfl
      | some x =>
        simp only [hy,Bool.not_eq_true',stayD,stayT,Bool.or_eq_false_iff,bne_eq_false_iff_eq] at q
        have hp:=(hM.jump k y hy q.1.1.1).2.2 x hx
        simp only [joinM_eq (hM.blk _ x hx) hp]
        rfl
end Go.Proofs.Ytlkcidmmpeebeaa
