/- Proved: joining by a map is joining by names,where the check is passed. No program in sight. -/
import Derived.Test.YtlkcidmmpeebeaaPUnI
set_option linter.unusedVariables false
set_option linter.unusedSimpArgs false
namespace Go.Proofs.Ytlkcidmmpeebeaa
open Go.RowKit Go.PX

theorem keys_args {l:List Int} {p:Int × Int} (h:p∈argsN l):0≤p.1∧p.1<(l.length:Int):=by
  unfold argsN at h
  obtain ⟨⟨v,i⟩,hq,rfl⟩:=List.mem_map.1 h
  have:=(List.mem_zipIdx' hq).1
  simp; omega
section
variable {c:CodeD} {b h:BlockD}
/-- what the block's values are called -/
theorem find_has (hp:h.params=(b.term.args0.length:Int)) {v:Int} (hv:R.has (R.values h) v=true):valD (nmJ b h) v=nameOf (nmJ b h) v:=by
  have hm:∃ p∈nmJ b h,p.1=v:=by
    have:=(has_iff _ _).1 hv
    rw [values_eq2,List.mem_append] at this
    unfold nmJ nmK
    rw [List.take_length]
    rcases this with q | q
    · unfold R.upto at q
      obtain ⟨i,hi,rfl⟩:=List.mem_map.1 q
      have:=List.mem_range.1 hi
      obtain ⟨y,hy⟩:=get_of_lt (l:=b.term.args0) (k:=i) (by omega)
      refine ⟨(((i:Nat):Int),y),List.mem_append_left _ ?_,rfl⟩
      unfold argsN
      exact List.mem_map.2 ⟨(y,i),List.mk_mem_zipIdx_iff_getElem?.2 hy,rfl⟩
    · obtain ⟨i,hi⟩:=List.getElem?_of_mem q
      exact ⟨(v,topD b+1+((i:Nat):Int)),List.mem_append_right _ (List.mem_map.2 ⟨(v,i),List.mk_mem_zipIdx_iff_getElem?.2 hi,rfl⟩),rfl⟩
  unfold valD nameOf
  rw [show (fun p:Int × Int=>v==p.1)=(fun p=>p.1==v) from by funext p; exact Bool.beq_comm]
  cases hf:(nmJ b h).find? (fun p=>p.1==v) with
  | some q=>rfl
  | none =>
    obtain ⟨p,hp1,hp2⟩:=hm
    have:=List.find?_eq_none.1 hf p hp1
    simp [hp2] at this
end
theorem opsFrom_each {c:CodeD} {p:Int} {all:List Int}:∀ {ops:List OpD} {known:List Int},R.opsFrom c p all known ops=true→∀ o∈ops,(1≤o.kind∧o.kind≤21)∧R.plain o=true∧(R.usesA o.kind=true→o.a∈known++dsts ops)∧(R.usesB o.kind=true→o.b∈known++dsts ops)∧R.tail c all o=true
  | [],known,_,o,ho=>by cases ho
  | x::os,known,h,o,ho=>by
    simp only [R.opsFrom,Bool.and_eq_true] at h
    obtain ⟨⟨⟨h1,_⟩,h3⟩,h4⟩:=h
    rcases List.mem_cons.1 ho with rfl | ho
    · simp only [R.head,Bool.not_eq_true',Bool.or_eq_false_iff,decide_eq_false_iff_not,Bool.not_eq_false',Bool.and_eq_false_imp] at h1
      obtain ⟨⟨⟨⟨q1,q2⟩,q3⟩,q4⟩,q5⟩:=h1
      exact ⟨⟨by omega,by omega⟩,q3,fun q=>List.mem_append_left _ ((has_iff _ _).1 (q4 q)),fun q=>List.mem_append_left _ ((has_iff _ _).1 (q5 q)),h3⟩
    · obtain ⟨q1,q2,q3,q4,q5⟩:=opsFrom_each h4 o ho
      have sub:∀ v,v∈(if R.defines x.kind=true then known++[x.dst] else known)++dsts os→v∈known++dsts (x::os):=fun v hv=>by
        cases hd:R.defines x.kind with
        | true=>rw [hd] at hv; simpa [dsts,hd] using hv
        | false=>rw [hd] at hv; simpa [dsts,hd] using hv
      exact ⟨q1,q2,fun q=>sub _ (q3 q),fun q=>sub _ (q4 q),q5⟩
section
variable {c:CodeD} {b h:BlockD}
end
end Go.Proofs.Ytlkcidmmpeebeaa

/- Proved: the steps of unroll.turn and unroll.copyLoops,against the unrolled code on plain data. No program in sight. -/
namespace Go.Proofs.Ytlkcidmmpeebeaa
open Go.RowKit Go.PX

theorem wrap_add (a b:Int):IntKind.i64.wrap (IntKind.i64.wrap a+b)=IntKind.i64.wrap (a+b):=by
  simp only [IntKind.wrap_i64]; omega
def sumO (l:List BlockD):Int:=(l.map fun b=>(b.ops.length:Int)).sum
theorem totW_sum':∀ (l:List BlockD) (n:Int),l.foldl (fun n b=>IntKind.i64.wrap (n+(b.ops.length:Int))) (IntKind.i64.wrap n)=IntKind.i64.wrap (n+sumO l)
  | [],n=>by simp [sumO]
  | b::l,n=>by
    rw [List.foldl_cons,wrap_add,totW_sum' l]
    unfold sumO
    rw [List.map_cons,List.sum_cons,Int.add_assoc]
theorem totW_sum (l:List BlockD):totW l=IntKind.i64.wrap (sumO l):=by
  have:=totW_sum' l 0
  rw [show IntKind.i64.wrap 0=0 from rfl,Int.zero_add] at this
  exact this
theorem sumO_set:∀ {l:List BlockD} {i:Nat} {y:BlockD} (z:BlockD),l[i]?=some y→sumO (l.set i z)=sumO l-(y.ops.length:Int)+(z.ops.length:Int)
  | [],i,y,z,h=>by simp at h
  | b::l,0,y,z,h=>by
    simp only [List.getElem?_cons_zero,Option.some.injEq] at h; subst h
    simp only [List.set_cons_zero,sumO,List.map_cons,List.sum_cons]; omega
  | b::l,i+1,y,z,h=>by
    have:=sumO_set z (l:=l) (i:=i) (y:=y) (by simpa using h)
    simp only [sumO] at this
    simp only [List.set_cons_succ,sumO,List.map_cons,List.sum_cons,this]; omega
section
variable {c:CodeD} {y x:BlockD} {k j:Nat}
end
section
variable {T cur:List BlockD} {y:BlockD} {k n:Nat}
end
end Go.Proofs.Ytlkcidmmpeebeaa
