/- Proved: the unrolled code on plain data,and what a check that is passed says of its blocks. No program in sight. -/
import Derived.Test.YtlkcidmmpeebeaaPUnC
set_option linter.unusedVariables false
set_option linter.unusedSimpArgs false
namespace Go.Proofs.Ytlkcidmmpeebeaa
open Go.RowKit Go.PX

/-! what the check says -/
structure BlkOk (c:CodeD) (b:BlockD):Prop where
  params:0≤b.params∧b.params≤999
  ops:R.ops c b=true
  term:R.term c b=true
theorem blk_ok {c:CodeD} {t:Int} (h:R.check c t=0) {b:BlockD} {k:Nat} (hb:c.blocks[k]?=some b):BlkOk c b:=by
  unfold R.check at h
  split at h
  · simp at h
  split at h
  · simp at h
  split at h
  · rename_i h1 h2 h3
    have:=List.all_eq_true.1 h3 b (List.mem_of_getElem? hb)
    simp only [Bool.and_eq_true,Bool.not_eq_true',Bool.or_eq_false_iff,decide_eq_false_iff_not] at this
    exact ⟨by omega,this.1.2,this.2⟩
  · simp at h
theorem edge_ok {c:CodeD} {blk:Int} {args all:List Int} {more:Int} (h:R.edge c blk args all more=true):1≤blk∧blk<(c.blocks.length:Int)∧(args.length:Int)+more=R.paramsAt c blk∧∀ v∈args,R.has all v=true:=by
  unfold R.edge at h
  split at h
  · cases h
  · rename_i q
    simp only [Bool.or_eq_true,decide_eq_true_eq,not_or,bne_iff_ne,ne_eq,Classical.not_not] at q
    exact ⟨by omega,by omega,q.2,fun v hv=>List.all_eq_true.1 h v hv⟩
structure TermOk (c:CodeD) (b:BlockD):Prop where
  a:(b.term.kind==2||b.term.kind==4||b.term.kind==5)=true→R.has (R.values b) b.term.a=true
  args:∀ v∈b.term.args,R.has (R.values b) v=true
  jump:b.term.kind=1→R.edge c b.term.b0 b.term.args0 (R.values b) 0=true
  br:b.term.kind=2→R.edge c b.term.b0 b.term.args0 (R.values b) 0=true∧R.edge c b.term.b1 b.term.args1 (R.values b) 0=true
theorem term_ok {c:CodeD} {b:BlockD} (h:R.term c b=true):TermOk c b:=by
  unfold R.term at h
  simp only at h
  split at h
  · cases h
  rename_i q1
  split at h
  · cases h
  rename_i q2
  simp only [Bool.not_eq_true',Bool.not_eq_false] at q2
  refine ⟨fun ha=>?_,fun v hv=>List.all_eq_true.1 q2 v hv,fun h1=>?_,fun h2=>?_⟩
  · simp only [Bool.or_eq_true,not_or,Bool.and_eq_true,not_and] at q1
    have:=q1.1.1.1 (by simpa using ha)
    simpa using this
  · rw [h1] at h
    simp only [Int.reduceBEq,if_true,Bool.and_eq_true] at h
    exact h.1
  · rw [h2] at h
    simp only [Int.reduceBEq,Bool.false_eq_true,if_false,if_true,Bool.and_eq_true] at h
    exact h
theorem opsFrom_dsts {c:CodeD} {p:Int} {all:List Int}:∀ {ops:List OpD} {known:List Int},R.opsFrom c p all known ops=true→(∀ v∈dsts ops,p≤v∧v≤9999∧v ∉ known)∧(dsts ops).Nodup
  | [],known,_=>⟨fun v hv=>by simp [dsts] at hv,by simp [dsts]⟩
  | o::os,known,h=>by
    simp only [R.opsFrom,Bool.and_eq_true] at h
    obtain ⟨⟨⟨_,h2⟩,_⟩,h4⟩:=h
    obtain ⟨i1,i2⟩:=opsFrom_dsts h4
    cases hd:R.defines o.kind with
    | false =>
      have e:dsts (o::os)=dsts os:=by simp [dsts,hd]
      rw [hd] at i1
      rw [e]
      exact ⟨fun v hv=>by simpa using i1 v hv,i2⟩
    | true =>
      have e:dsts (o::os)=o.dst::dsts os:=by simp [dsts,hd]
      rw [hd] at h2 i1
      simp only [Bool.not_true,Bool.false_or,Bool.not_eq_true',Bool.or_eq_false_iff,decide_eq_false_iff_not] at h2
      have hk:o.dst ∉ known:=fun q=>by have:=(has_iff known o.dst).2 q; rw [h2.2] at this; cases this
      rw [e]
      refine ⟨fun v hv=>?_,List.nodup_cons.2 ⟨fun q=>?_,i2⟩⟩
      · rcases List.mem_cons.1 hv with rfl | hv
        · exact ⟨by omega,by omega,hk⟩
        · obtain ⟨j1,j2,j3⟩:=i1 v hv
          exact ⟨j1,j2,fun q=>j3 (by simp [q])⟩
      · exact (i1 _ q).2.2 (by simp)
theorem dsts_ok {c:CodeD} {b:BlockD} (h:BlkOk c b):(∀ v∈dsts b.ops,b.params≤v∧v≤9999)∧(dsts b.ops).Nodup:=by
  obtain ⟨h1,h2⟩:=opsFrom_dsts h.ops
  exact ⟨fun v hv=>⟨(h1 v hv).1,(h1 v hv).2.1⟩,h2⟩
theorem mx_bd:∀ (l:List Int) (n:Int),-1≤n→n≤9999→(∀ v∈l,v≤9999)→-1≤l.foldl mx n∧l.foldl mx n≤9999
  | [],n,h1,h2,_=>⟨h1,h2⟩
  | x::l,n,h1,h2,h=>by
    have hx:=h x (by simp)
    refine mx_bd l (mx n x) ?_ ?_ (fun v hv=>h v (by simp [hv])) <;> unfold mx <;> split <;> omega
section
variable {c:CodeD} {y x:BlockD} {k j:Nat}
end

/-! loops copied -/
section
variable {T:List BlockD} {y:BlockD} {k:Nat}
end
end Go.Proofs.Ytlkcidmmpeebeaa
