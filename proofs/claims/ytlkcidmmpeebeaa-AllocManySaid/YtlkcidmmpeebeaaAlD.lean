/- Proved: what a check that is passed says of a block's values,for the layout. No program in sight. -/
import Derived.Test.YtlkcidmmpeebeaaPAlE
import Derived.Test.YtlkcidmmpeebeaaUnD
set_option linter.unusedVariables false
set_option linter.unusedSimpArgs false
namespace Go.Proofs.Ytlkcidmmpeebeaa
open Go.RowKit Go.PX
theorem mxI_ge (x y:Int):x≤mxI x y∧y≤mxI x y:=by unfold mxI; split <;> omega
theorem cnt_ge:∀ (l:List OpD) (n:Int),n≤l.foldl cntStep n∧∀ v∈dsts l,v+1≤l.foldl cntStep n
  | [],n=>⟨Int.le_refl _,fun v h=>by simp [dsts] at h⟩
  | o::l,n=>by
    have ih:=cnt_ge l (cntStep n o)
    have h0:n≤cntStep n o:=by unfold cntStep; split; exact (mxI_ge _ _).1; exact Int.le_refl _
    rw [List.foldl_cons]
    refine ⟨Int.le_trans h0 ih.1,fun v hv=>?_⟩
    cases hd:R.defines o.kind with
    | false =>
      have e:dsts (o::l)=dsts l:=by simp [dsts,hd]
      rw [e] at hv; exact ih.2 v hv
    | true =>
      have e:dsts (o::l)=o.dst::dsts l:=by simp [dsts,hd]
      rw [e] at hv
      rcases List.mem_cons.1 hv with rfl | hv
      · refine Int.le_trans ?_ ih.1
        unfold cntStep; rw [if_pos hd]; exact (mxI_ge _ _).2
      · exact ih.2 v hv
theorem cnt_le:∀ (l:List OpD) (n m:Int),n≤m→(∀ v∈dsts l,v+1≤m)→l.foldl cntStep n≤m
  | [],n,m,h,_=>h
  | o::l,n,m,h,hv=>by
    rw [List.foldl_cons]
    refine cnt_le l _ m ?_ fun v q=>hv v ?_
    · unfold cntStep
      split
      · rename_i hd
        have:=hv o.dst (by simp [dsts,hd])
        unfold mxI; split <;> omega
      · exact h
    · cases hd:R.defines o.kind with
      | false=>simpa [dsts,hd] using q
      | true =>
        have e:dsts (o::l)=o.dst::dsts l:=by simp [dsts,hd]
        rw [e]; exact List.mem_cons_of_mem _ q
theorem cnt_val {c:CodeD} {b:BlockD} (h:BlkOk c b):0≤cntI b∧cntI b≤10000∧b.params≤cntI b∧∀ v∈R.values b,0≤v∧v<cntI b:=by
  have hp:=h.params
  have hd:=(dsts_ok h).1
  have h1:=cnt_ge b.ops b.params
  have h2:=cnt_le b.ops b.params 10000 (by omega) fun v hv=>by have:=hd v hv; omega
  unfold cntI
  refine ⟨by omega,h2,h1.1,fun v hv=>?_⟩
  rw [values_eq2,List.mem_append] at hv
  rcases hv with hv | hv
  · unfold R.upto at hv
    obtain ⟨i,hi,rfl⟩:=List.mem_map.1 hv
    have:=List.mem_range.1 hi
    omega
  · have:=hd v hv; have:=h1.2 v hv; omega
theorem opsFrom_uses {c:CodeD} {p:Int} {all:List Int}:∀ {ops:List OpD} {known:List Int},R.opsFrom c p all known ops=true→(∀ v∈known,v∈all)→(∀ v∈dsts ops,v∈all) →
    ∀ o∈ops,(R.usesA o.kind=true→o.a∈all)∧(R.usesB o.kind=true→o.b∈all)∧(o.kind=21→o.sk=2→o.sv∈all)
  | [],_,_,_,_,o,ho=>by cases ho
  | x::os,known,h,hk,hd,o,ho=>by
    simp only [R.opsFrom,Bool.and_eq_true] at h
    obtain ⟨⟨⟨h1,_⟩,h3⟩,h4⟩:=h
    have hd':∀ v∈dsts os,v∈all:=fun v hv=>hd v (by
      cases e:R.defines x.kind with
      | false=>simpa [dsts,e] using hv
      | true =>
        have e':dsts (x::os)=x.dst::dsts os:=by simp [dsts,e]
        rw [e']; exact List.mem_cons_of_mem _ hv)
    rcases List.mem_cons.1 ho with rfl | ho
    · unfold R.head at h1
      simp only [Bool.not_eq_true',Bool.or_eq_false_iff,Bool.and_eq_false_iff,Bool.not_eq_false'] at h1
      refine ⟨fun q=>?_,fun q=>?_,fun q1 q2=>?_⟩
      · rcases h1.1.2 with r | r
        · rw [q] at r; cases r
        · exact hk _ ((has_iff known o.a).1 r)
      · rcases h1.2 with r | r
        · rw [q] at r; cases r
        · exact hk _ ((has_iff known o.b).1 r)
      · unfold R.tail at h3
        rw [q1] at h3
        simp only [Int.reduceBEq,Bool.or_false,Bool.false_eq_true,if_false,if_true,Bool.and_eq_true] at h3
        have h5:=h3.2
        unfold R.source at h5
        rw [q2] at h5
        simp only [Int.reduceBEq,Bool.false_eq_true,if_false,if_true] at h5
        exact (has_iff all o.sv).1 h5
    · refine opsFrom_uses h4 (fun v hv=>?_) hd' o ho
      split at hv
      · rename_i e
        rcases List.mem_append.1 hv with hv | hv
        · exact hk v hv
        · simp only [List.mem_singleton] at hv; subst hv
          exact hd _ (by simp [dsts,e])
      · exact hk v hv
theorem term_vals {c:CodeD} {b:BlockD} (h:R.term c b=true):(∀ v∈b.term.args0,v∈R.values b)∧(∀ v∈b.term.args1,v∈R.values b):=by
  have he:∀ {blk:Int} {args:List Int} {more:Int},R.edge c blk args (R.values b) more=true→∀ v∈args,v∈R.values b:=fun {blk args more} q v hv=>(has_iff _ _).1 ((edge_ok q).2.2.2 v hv)
  have hn:∀ {blk:Int} {args:List Int},R.none_ blk args=true→∀ v∈args,v∈R.values b:=fun {blk args} q v hv=>by
    unfold R.none_ at q
    simp only [Bool.and_eq_true,beq_iff_eq] at q
    rw [List.length_eq_zero_iff.1 q.2] at hv; cases hv
  unfold R.term at h
  simp only at h
  split at h
  · cases h
  split at h
  · cases h
  split at h
  · simp only [Bool.and_eq_true] at h; exact ⟨he h.1,hn h.2⟩
  split at h
  · simp only [Bool.and_eq_true] at h; exact ⟨he h.1,he h.2⟩
  split at h
  · simp only [Bool.and_eq_true,Bool.or_eq_true] at h
    refine ⟨he h.1,?_⟩
    rcases h.2 with q | q
    · exact hn q
    · exact he q
  split at h
  · simp only [Bool.and_eq_true] at h; exact ⟨hn h.1,hn h.2⟩
  · cases h
def cnD (b:BlockD):Nat:=(cntI b).toNat
theorem aok_of {c:CodeD} {t:Int} (hf:Fit c) (h:R.check c t=0) {b:BlockD} {k:Nat} (hb:c.blocks[k]?=some b):AOk (cnD b) b∧b.params≤(cnD b:Int)∧cntI b=(cnD b:Int)∧0≤b.params∧b.params≤999∧b.ops.length≤6000∧b.term.args0.length≤999∧b.term.args1.length≤999:=by
  have ok:=blk_ok h hb
  have hm:=List.mem_of_getElem? hb
  obtain ⟨c1,c2,c3,c4⟩:=cnt_val ok
  have hcn:cntI b=(cnD b:Int):=by unfold cnD; omega
  have hd:∀ v∈dsts b.ops,v∈R.values b:=fun v hv=>by rw [values_eq2]; exact List.mem_append_right _ hv
  have hu:=opsFrom_uses (known:=R.upto b.params) ok.ops (fun v hv=>by rw [values_eq2]; exact List.mem_append_left _ hv) hd
  have hv:∀ v∈R.values b,0≤v∧v<(cnD b:Int):=fun v q=>by rw [← hcn]; exact c4 v q
  have hf1:=hf.ops b hm
  obtain ⟨t1,t2,t3⟩:=hf.term b hm
  refine ⟨⟨by omega,by omega,fun o ho q=>?_,fun o ho q=>hv _ ((hu o ho).1 q),fun o ho q=>hv _ ((hu o ho).2.1 q),⟨by omega,by omega,by omega⟩,fun v q=>hv v ?_,fun o ho q1 q2=>hv _ ((hu o ho).2.2 q1 q2)⟩,by omega,hcn,ok.params.1,ok.params.2,by omega,t2,t3⟩
  · exact hv _ (hd _ (List.mem_map.2 ⟨o,List.mem_filter.2 ⟨ho,q⟩,rfl⟩))
  · have tk:=term_ok ok.term
    obtain ⟨e0,e1⟩:=term_vals ok.term
    unfold termU at q
    rcases List.mem_append.1 q with q | q
    · split at q
      · rename_i ha
        simp only [List.mem_singleton] at q; subst q
        exact (has_iff _ _).1 (tk.a (by simpa [or_assoc] using ha))
      · split at q
        · exact (has_iff _ _).1 (tk.args v q)
        · cases q
    · rcases List.mem_append.1 q with q | q
      · split at q
        · exact e0 v q
        · cases q
      · split at q
        · exact e1 v q
        · cases q
end Go.Proofs.Ytlkcidmmpeebeaa
