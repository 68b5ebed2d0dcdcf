/- Proved: joining by a map is joining by names,where the check is passed. No program in sight. -/
import Derived.Test.YtlkcidmmpeebeaaPUnI
set_option linter.unusedVariables false
set_option linter.unusedSimpArgs false
namespace Go.Proofs.Ytlkcidmmpeebeaa
open Go.RowKit Go.PX

theorem foldl_mx_le:∀ (l:List Int) (n:Int),(∀ v∈l,v≤n)→l.foldl mx n=n
  | [],n,_=>rfl
  | x::l,n,h=>by
    have hx:=h x (by simp)
    have e:mx n x=n:=by unfold mx; rw [if_neg (by omega)]
    rw [List.foldl_cons,e]; exact foldl_mx_le l n fun v hv=>h v (by simp [hv])
theorem foldl_nxt:∀ (l:List Int) (n:Int),(∀ v∈l,0≤v∧v≤9999)→l.foldl (fun n v=>mx n (IntKind.i64.wrap (v+1))) (n+1)=l.foldl mx n+1
  | [],n,_=>rfl
  | x::l,n,h=>by
    have hx:=h x (by simp)
    have e:mx (n+1) (IntKind.i64.wrap (x+1))=mx n x+1:=by
      rw [IntWalk.i64_in _ (by omega)]; unfold mx; split <;> split <;> omega
    rw [List.foldl_cons,List.foldl_cons,e]; exact foldl_nxt l _ fun v hv=>h v (by simp [hv])
theorem nxt_top {c:CodeD} {b:BlockD} (h:BlkOk c b):nxtF b (dsts b.ops)=topD b+1:=by
  have hp:=h.params
  have hd:=(dsts_ok h).1
  unfold nxtF topD
  rw [values_eq2,List.foldl_append,foldl_mx_le (R.upto b.params) (b.params-1) (fun v hv=>by
    unfold R.upto at hv
    obtain ⟨i,hi,rfl⟩:=List.mem_map.1 hv
    have:=List.mem_range.1 hi
    omega)]
  have:=foldl_nxt (dsts b.ops) (b.params-1) (fun v hv=>by have:=hd v hv; omega)
  rw [← this]; congr 1; omega
theorem fold_num:∀ (l:List Int) (D:List (Int × Int)) (n:Int) (ok:Bool),l.Nodup→(∀ v∈l,∀ p∈D,v≠p.1)→0≤n→n+(l.length:Int)≤1000000 →
    l.foldl numP (D,n,ok)=(D++l.zipIdx.map (fun p=>(p.1,n+((p.2:Nat):Int))),n+(l.length:Int),ok&&decide (l=[]∨n+(l.length:Int)≤10000))
  | [],D,n,ok,_,_,_,_=>by simp
  | x::l,D,n,ok,hn,hd,h0,hl=>by
    obtain ⟨n1,n2⟩:=List.nodup_cons.1 hn
    simp only [List.length_cons] at hl
    have e:numP (D,n,ok) x=(D++[(x,n)],n+1,ok&&!decide (9999<n)):=by
      simp only [numP,updI_fresh D x n (hd x (by simp)),IntWalk.i64_in (n+1) (by omega)]
    rw [List.foldl_cons,e,fold_num l _ (n+1) _ n2 (fun v hv p hp=>by
      rcases List.mem_append.1 hp with hp | hp
      · exact hd v (by simp [hv]) p hp
      · simp only [List.mem_singleton] at hp; subst hp; rintro rfl; exact n1 hv) (by omega) (by omega)]
    refine Prod.ext ?_ (Prod.ext ?_ ?_)
    · simp only [List.zipIdx_cons,List.map_cons,List.append_assoc,List.singleton_append,Nat.zero_add]
      congr 2
      · simp
      · rw [List.zipIdx_succ,List.map_map]
        refine List.map_congr_left fun p _=>?_
        simp only [Function.comp]
        congr 1; omega
    · simp only [List.length_cons]; omega
    · simp only [List.length_cons]
      rw [Bool.eq_iff_iff]
      simp only [Bool.and_eq_true,Bool.not_eq_true',decide_eq_false_iff_not,decide_eq_true_eq]
      constructor
      · rintro ⟨⟨q1,q2⟩,q3⟩
        refine ⟨q1,.inr ?_⟩
        rcases q3 with rfl | q3
        · simp; omega
        · omega
      · rintro ⟨q1,q2⟩
        rcases q2 with q2 | q2
        · cases q2
        · exact ⟨⟨q1,by omega⟩,.inr (by omega)⟩
theorem keys_args {l:List Int} {p:Int × Int} (h:p∈argsN l):0≤p.1∧p.1<(l.length:Int):=by
  unfold argsN at h
  obtain ⟨⟨v,i⟩,hq,rfl⟩:=List.mem_map.1 h
  have:=(List.mem_zipIdx' hq).1
  simp; omega
section
variable {c:CodeD} {b h:BlockD}
theorem numF_eq (ob:BlkOk c b) (oh:BlkOk c h) (hp:h.params=(b.term.args0.length:Int)) (hl:h.ops.length≤6000) :
    numF b (dsts h.ops)=(nmJ b h,numK b h h.ops.length,joinOk b h):=by
  have hd:=dsts_ok oh
  have ht:=top_bd ob
  have hlen:=dsts_len h.ops
  unfold numF
  rw [nxt_top ob,fold_num (dsts h.ops) _ _ _ hd.2 (fun v hv p hq=>by have:=(hd.1 v hv).1; have:=keys_args hq; omega) (by omega) (by omega)]
  unfold nmJ nmK joinOk numK
  rw [List.take_length]
  refine Prod.ext rfl (Prod.ext rfl ?_)
  simp only [Bool.true_and,decide_eq_decide]
  constructor
  · rintro (q | q)
    · rw [q]; simp; omega
    · exact q
  · exact .inr
/-- what the block's values are called -/
theorem find_has (hp:h.params=(b.term.args0.length:Int)) {v:Int} (hv:R.has (R.values h) v=true):valD (nmJ b h) v=nameOf (nmJ b h) v:=by
  have hm:∃ p∈nmJ b h,p.1=v:=by
    have:=(has_iff _ _).1 hv
    rw [values_eq2,List.mem_append] at this
    unfold nmJ nmK
    rw [List.take_length]
    rcases this with q | q
    · unfold R.upto at q
      obtain ⟨i,hi,rfl⟩:=List.mem_map.1 q
      have:=List.mem_range.1 hi
      obtain ⟨y,hy⟩:=get_of_lt (l:=b.term.args0) (k:=i) (by omega)
      refine ⟨(((i:Nat):Int),y),List.mem_append_left _ ?_,rfl⟩
      unfold argsN
      exact List.mem_map.2 ⟨(y,i),List.mk_mem_zipIdx_iff_getElem?.2 hy,rfl⟩
    · obtain ⟨i,hi⟩:=List.getElem?_of_mem q
      exact ⟨(v,topD b+1+((i:Nat):Int)),List.mem_append_right _ (List.mem_map.2 ⟨(v,i),List.mk_mem_zipIdx_iff_getElem?.2 hi,rfl⟩),rfl⟩
  unfold valD nameOf
  rw [show (fun p:Int × Int=>v==p.1)=(fun p=>p.1==v) from by funext p; exact Bool.beq_comm]
  cases hf:(nmJ b h).find? (fun p=>p.1==v) with
  | some q=>rfl
  | none =>
    obtain ⟨p,hp1,hp2⟩:=hm
    have:=List.find?_eq_none.1 hf p hp1
    simp [hp2] at this
end
theorem opsFrom_each {c:CodeD} {p:Int} {all:List Int}:∀ {ops:List OpD} {known:List Int},R.opsFrom c p all known ops=true→∀ o∈ops,(1≤o.kind∧o.kind≤21)∧R.plain o=true∧(R.usesA o.kind=true→o.a∈known++dsts ops)∧(R.usesB o.kind=true→o.b∈known++dsts ops)∧R.tail c all o=true
  | [],known,_,o,ho=>by cases ho
  | x::os,known,h,o,ho=>by
    simp only [R.opsFrom,Bool.and_eq_true] at h
    obtain ⟨⟨⟨h1,_⟩,h3⟩,h4⟩:=h
    rcases List.mem_cons.1 ho with rfl | ho
    · simp only [R.head,Bool.not_eq_true',Bool.or_eq_false_iff,decide_eq_false_iff_not,Bool.not_eq_false',Bool.and_eq_false_imp] at h1
      obtain ⟨⟨⟨⟨q1,q2⟩,q3⟩,q4⟩,q5⟩:=h1
      exact ⟨⟨by omega,by omega⟩,q3,fun q=>List.mem_append_left _ ((has_iff _ _).1 (q4 q)),fun q=>List.mem_append_left _ ((has_iff _ _).1 (q5 q)),h3⟩
    · obtain ⟨q1,q2,q3,q4,q5⟩:=opsFrom_each h4 o ho
      have sub:∀ v,v∈(if R.defines x.kind=true then known++[x.dst] else known)++dsts os→v∈known++dsts (x::os):=fun v hv=>by
        cases hd:R.defines x.kind with
        | true=>rw [hd] at hv; simpa [dsts,hd] using hv
        | false=>rw [hd] at hv; simpa [dsts,hd] using hv
      exact ⟨q1,q2,fun q=>sub _ (q3 q),fun q=>sub _ (q4 q),q5⟩
section
variable {c:CodeD} {b h:BlockD}
theorem ren_eq (oh:BlkOk c h) (hp:h.params=(b.term.args0.length:Int)) {o:OpD} (ho:o∈h.ops):renP (nmJ b h) o=renO_ (nmJ b h) o:=by
  obtain ⟨⟨k1,k2⟩,hpl,ha,hb,ht⟩:=opsFrom_each oh.ops o ho
  have hv:∀ v,v∈R.upto h.params++dsts h.ops→valD (nmJ b h) v=nameOf (nmJ b h) v:=fun v q=>find_has hp ((has_iff _ _).2 (by rw [values_eq2]; exact q))
  have hd:R.defines o.kind=true→valD (nmJ b h) o.dst=nameOf (nmJ b h) o.dst:=fun q=>hv _ (List.mem_append_right _ (by
    unfold dsts; exact List.mem_map.2 ⟨o,List.mem_filter.2 ⟨ho,q⟩,rfl⟩))
  have ha':=fun q=>hv _ (ha q)
  have hb':=fun q=>hv _ (hb q)
  have hs:o.kind≠21→(o.sk==2)=false:=fun q=>by
    unfold R.plain at hpl
    simp only at hpl
    split at hpl
    · cases hpl
    split at hpl
    · cases hpl
    simp only [Bool.or_eq_true,beq_iff_eq,Bool.and_eq_true] at hpl
    rcases hpl with e | e
    · exact absurd e q
    · simp [e.2.1.1]
  have hs2:o.kind=21→(o.sk==2)=true→valD (nmJ b h) o.sv=nameOf (nmJ b h) o.sv:=fun q q2=>by
    unfold R.tail at ht
    rw [q] at ht
    simp only [Int.reduceBEq,Bool.false_or,Bool.or_self,Bool.false_eq_true,if_false,if_true,Bool.and_eq_true] at ht
    have h4:=ht.2
    unfold R.source at h4
    have e:o.sk=2:=by simpa using q2
    rw [e] at h4
    simp only [Int.reduceBEq,Bool.false_eq_true,if_false,if_true] at h4
    exact find_has hp h4
  obtain ⟨kind,dst,a,bb,n,ctx,var,piece,sk,sv,sa⟩:=o
  simp only at k1 k2 hd ha' hb' hs hs2
  unfold renP renO_
  simp only
  have hk:kind=1∨kind=2∨kind=3∨kind=4∨kind=5∨kind=6∨kind=7∨kind=8∨kind=9∨kind=10∨kind=11∨kind=12∨kind=13∨kind=14∨kind=15∨kind=16∨kind=17∨kind=18∨kind=19∨kind=20∨kind=21:=by omega
  clear ha hb ht hpl k1 k2 ho hv
  rcases hk with rfl | rfl | rfl | rfl | rfl | rfl | rfl | rfl | rfl | rfl | rfl | rfl | rfl | rfl | rfl | rfl | rfl | rfl | rfl | rfl | rfl
  all_goals simp only [R.defines,R.usesA,R.usesB] at hd ha' hb' ⊢
  all_goals try (have hs0:=hs (by decide); simp [hs0] at hd ha' hb' ⊢; try simp [hd,ha',hb'])
  cases hq:sk==2 with
  | true=>simp [hs2 rfl hq]
  | false=>simp
theorem join_eq (ob:BlkOk c b) (oh:BlkOk c h) (hk:h.term.kind=2) (hp:h.params=(b.term.args0.length:Int)) (hl:h.ops.length≤6000):joinQ b h=joinD b h∧okQ b h=joinOk b h:=by
  have hn:=numF_eq ob oh hp hl
  have tk:=term_ok oh.term
  have hb:=tk.br hk
  have hargs:h.term.args=[]:=by
    have ht:=oh.term
    unfold R.term at ht
    simp only at ht
    split at ht
    · cases ht
    · rename_i q
      rw [hk] at q
      simp at q
      exact q.2.2
  refine ⟨?_,by unfold okQ; rw [hn]⟩
  unfold joinQ joinD
  rw [hn]
  simp only
  have e1:h.ops.map (renP (nmJ b h))=h.ops.map (renO_ (nmJ b h)):=List.map_congr_left fun o ho=>ren_eq oh hp ho
  have ea:valD (nmJ b h) h.term.a=nameOf (nmJ b h) h.term.a:=find_has hp (tk.a (by rw [hk]; rfl))
  have e2:h.term.args0.map (valD (nmJ b h))=h.term.args0.map (nameOf (nmJ b h)):=List.map_congr_left fun v hv=>find_has hp ((edge_ok hb.1).2.2.2 v hv)
  have e3:h.term.args1.map (valD (nmJ b h))=h.term.args1.map (nameOf (nmJ b h)):=List.map_congr_left fun v hv=>find_has hp ((edge_ok hb.2).2.2.2 v hv)
  rw [e1,e2,e3,ea]
  unfold renT_
  rw [hargs,hk]
  simp
end
end Go.Proofs.Ytlkcidmmpeebeaa

/- Proved: the steps of unroll.turn and unroll.copyLoops,against the unrolled code on plain data. No program in sight. -/
namespace Go.Proofs.Ytlkcidmmpeebeaa
open Go.RowKit Go.PX

theorem wrap_add (a b:Int):IntKind.i64.wrap (IntKind.i64.wrap a+b)=IntKind.i64.wrap (a+b):=by
  simp only [IntKind.wrap_i64]; omega
def sumO (l:List BlockD):Int:=(l.map fun b=>(b.ops.length:Int)).sum
theorem totW_sum':∀ (l:List BlockD) (n:Int),l.foldl (fun n b=>IntKind.i64.wrap (n+(b.ops.length:Int))) (IntKind.i64.wrap n)=IntKind.i64.wrap (n+sumO l)
  | [],n=>by simp [sumO]
  | b::l,n=>by
    rw [List.foldl_cons,wrap_add,totW_sum' l]
    unfold sumO
    rw [List.map_cons,List.sum_cons,Int.add_assoc]
theorem totW_sum (l:List BlockD):totW l=IntKind.i64.wrap (sumO l):=by
  have:=totW_sum' l 0
  rw [show IntKind.i64.wrap 0=0 from rfl,Int.zero_add] at this
  exact this
theorem sumO_set:∀ {l:List BlockD} {i:Nat} {y:BlockD} (z:BlockD),l[i]?=some y→sumO (l.set i z)=sumO l-(y.ops.length:Int)+(z.ops.length:Int)
  | [],i,y,z,h=>by simp at h
  | b::l,0,y,z,h=>by
    simp only [List.getElem?_cons_zero,Option.some.injEq] at h; subst h
    simp only [List.set_cons_zero,sumO,List.map_cons,List.sum_cons]; omega
  | b::l,i+1,y,z,h=>by
    have:=sumO_set z (l:=l) (i:=i) (y:=y) (by simpa using h)
    simp only [sumO] at this
    simp only [List.set_cons_succ,sumO,List.map_cons,List.sum_cons,this]; omega
theorem sumO_append (l m:List BlockD):sumO (l++m)=sumO l+sumO m:=by simp [sumO]
theorem totW_turn {cur:List BlockD} {i:Nat} {y x:BlockD} (h:cur[i]?=some y):IntKind.i64.wrap (totW cur+((x.ops.length:Nat):Int))=totW (cur.set i (joinD y x)):=by
  rw [totW_sum,totW_sum,wrap_add,sumO_set _ h]
  congr 1
  simp only [joinD,List.length_append,List.length_map]; omega
theorem totW_copy {cur:List BlockD} {i n:Nat} {y:BlockD} (h:cur[i]?=some y):IntKind.i64.wrap (totW cur+((y.ops.length:Nat):Int))=totW (cur.set i (copyB y i n)++[y]):=by
  rw [totW_sum,totW_sum,wrap_add,sumO_append,sumO_set _ h]
  congr 1
  simp only [copyB,sumO,List.map_cons,List.map_nil,List.sum_cons,List.sum_nil]; omega

theorem bump_get {l:List Int} {j:Nat} {z:Int} (e:Int) (h:l[j]?=some z):(bump l e)[j]?=some (stepE ((j:Nat):Int) z e):=by
  have hj:=(List.getElem?_eq_some_iff.1 h).1
  unfold bump stepE
  by_cases h0:0≤e
  · rw [if_pos h0]
    by_cases hb:e=((j:Nat):Int)
    · have e1:e.toNat=j:=by omega
      rw [e1,h,List.getElem?_set_self hj,if_pos (by simp [hb])]; rfl
    · rw [List.getElem?_set_ne (by omega),h,if_neg (by simpa using hb)]
  · rw [if_neg h0,h,if_neg (by simp; omega)]
theorem cnt_get (c:CodeD) {j:Nat} (hj:j<c.blocks.length):∀ k,k≤c.blocks.length→(cntK c k)[j]?=some (edgesK c ((j:Nat):Int) k)
  | 0,_=>by simp [cntK,edgesK,hj]
  | k+1,h=>by
    obtain ⟨y,hy⟩:=get_of_lt (show k<c.blocks.length by omega)
    rw [cntK_succ hy,edgesK_succ hy]
    exact bump_get _ (bump_get _ (cnt_get c hj k (by omega)))
section
variable {c:CodeD} {y x:BlockD} {k j:Nat}
theorem turn_p1 (hy:c.blocks[k+1]?=some y) (hx:c.blocks[j]?=some x) (hj:y.term.kind=1→(j:Int)=y.term.b0) (h:(((y.term.kind != 1)||(y.term.b0==((k+1:Nat):Int)))||decide ((edgesK c ((j:Nat):Int) c.blocks.length)<2))=true):turnL c (k+1)=turnL c k:=by
  refine turnL_skip hy hx hj ?_
  unfold skipT
  by_cases h1:y.term.kind=1
  · rw [hj h1] at h
    rw [h]; rfl
  · simp [h1]
theorem skip_false (hj:y.term.kind=1→(j:Int)=y.term.b0) (h:(((y.term.kind != 1)||(y.term.b0==((k+1:Nat):Int)))||decide ((edgesK c ((j:Nat):Int) c.blocks.length)<2))=false):y.term.kind=1∧(((y.term.kind != 1)||(y.term.b0==((k+1:Nat):Int)))||decide ((edgesK c y.term.b0 c.blocks.length)<2))=false:=by
  have h1:y.term.kind=1:=by
    simp only [Bool.or_eq_false_iff,bne_eq_false_iff_eq] at h; exact h.1.1
  rw [hj h1] at h
  exact ⟨h1,h⟩
theorem turn_p2 (hy:c.blocks[k+1]?=some y) (hx:c.blocks[j]?=some x) (hj:y.term.kind=1→(j:Int)=y.term.b0) (h:(((y.term.kind != 1)||(y.term.b0==((k+1:Nat):Int)))||decide ((edgesK c ((j:Nat):Int) c.blocks.length)<2))=false)
    (h2:((decide (24<((x.ops.length:Nat):Int))||(x.term.kind != 2))||decide (6000<(IntKind.i64.wrap (totW (turnL c k)+((x.ops.length:Nat):Int)))))=true):turnL c (k+1)=turnL c k:=by
  obtain ⟨_,h⟩:=skip_false hj h
  cases h3:(decide (24<((x.ops.length:Nat):Int))||(x.term.kind != 2)) with
  | true =>
    refine turnL_skip hy hx hj ?_
    unfold skipT
    rw [h,Bool.false_or]; exact h3
  | false =>
    rw [h3,Bool.false_or] at h2
    refine turnL_no hy hx hj ?_ ?_
    · unfold skipT; rw [h,Bool.false_or]; exact h3
    · have:=of_decide_eq_true h2
      have e:fitsT (turnL c k) x=false:=by unfold fitsT; rw [decide_eq_false_iff_not]; omega
      rw [e,Bool.and_false]
theorem turn_ok (hj:y.term.kind=1→(j:Int)=y.term.b0) (h:(((y.term.kind != 1)||(y.term.b0==((k+1:Nat):Int)))||decide ((edgesK c ((j:Nat):Int) c.blocks.length)<2))=false)
    (h2:((decide (24<((x.ops.length:Nat):Int))||(x.term.kind != 2))||decide (6000<(IntKind.i64.wrap (totW (turnL c k)+((x.ops.length:Nat):Int)))))=false):skipT c y x (k+1)=false∧fitsT (turnL c k) x=true∧x.term.kind=2:=by
  obtain ⟨_,h⟩:=skip_false hj h
  simp only [Bool.or_eq_false_iff] at h2
  refine ⟨?_,?_,?_⟩
  · unfold skipT; rw [h,h2.1.1,h2.1.2]; rfl
  · have:=of_decide_eq_false h2.2
    unfold fitsT; rw [decide_eq_true_eq]; omega
  · simpa using h2.1.2
theorem jump_params {t:Int} (hc:R.check c t=0) (hy:c.blocks[k]?=some y) (hx:c.blocks[j]?=some x) (h1:y.term.kind=1) (hj:(j:Int)=y.term.b0):x.params=(y.term.args0.length:Int):=by
  have:=(edge_ok ((term_ok (blk_ok hc hy).term).jump h1)).2.2.1
  unfold R.paramsAt at this
  rw [show y.term.b0.toNat=j by omega,hx] at this
  simp at this; omega
end
section
variable {T cur:List BlockD} {y:BlockD} {k n:Nat}
theorem full_p {v:Bool} (h:(decide (400<((cur.length+1:Nat):Int))||decide (6000<(IntKind.i64.wrap (totW cur+((y.ops.length:Nat):Int)))))=v):fullC cur y=v:=by
  rw [← h]; unfold fullC
  congr 1
  rw [decide_eq_decide]; omega
theorem copy_rows {v0 v1:Bool} (hk:cur[k]?=some y) (h0:(y.term.b0==((k:Nat):Int))=v0) (h1:(y.term.b1==((k:Nat):Int))=v1) :
    (((cur.map encB)++[encB y]).set k [.sc (.int .i64 y.params),.imm 11 (y.ops.map encO),.sc (.int .i64 y.term.kind),.sc (.int .i64 y.term.a),.sc (.int .i64 y.term.n),.imm 1 (y.term.args.map encI),.sc (.int .i64 (bif v0 then ((n:Nat):Int) else y.term.b0)),.imm 1 (y.term.args0.map encI),.sc (.int .i64 (bif v1 then ((n:Nat):Int) else y.term.b1)),.imm 1 (y.term.args1.map encI)])=(cur.set k (copyB y k n)++[y]).map encB:=by
  have hlt:=(List.getElem?_eq_some_iff.1 hk).1
  rw [List.set_append_left _ _ (by simpa using hlt),List.map_append,List.map_set]
  congr 2
  unfold copyB encB toC
  rw [h0,h1]
  cases v0 <;> cases v1 <;> rfl
theorem rows_self (hk:cur[k]?=some y):((cur.map encB)++[encB y])=((cur.map encB)++[encB y]).set k (encB y):=by
  have hlt:=(List.getElem?_eq_some_iff.1 hk).1
  have e:((cur.map encB)++[encB y])[k]?=some (encB y):=by rw [List.getElem?_append_left (by simpa using hlt),map_get hk]
  obtain ⟨h1,h2⟩:=List.getElem?_eq_some_iff.1 e
  refine List.ext_getElem? fun i=>?_
  by_cases hi:k=i
  · subst hi; rw [List.getElem?_set_self h1,e]
  · rw [List.getElem?_set_ne hi]
theorem rows_get (hk:cur[k]?=some y) {z:List PX.PV}:((cur.map encB)++[z])[k]?=some (encB y):=by
  have hlt:=(List.getElem?_eq_some_iff.1 hk).1
  rw [List.getElem?_append_left (by simpa using hlt),map_get hk]
end
end Go.Proofs.Ytlkcidmmpeebeaa

/- Proved: the unrolled code's numbers are numbers of a machine. No program in sight. -/
namespace Go.Proofs.Ytlkcidmmpeebeaa
open Go.RowKit Go.PX

def GoodB (y:BlockD):Prop:=BlkI y∧y.ops.length≤1000000∧y.term.args.length≤1000000∧y.term.args0.length≤1000000∧y.term.args1.length≤1000000
theorem name_I {nm:List (Int × Int)} (h:∀ p∈nm,I64 p.2) {v:Int} (hv:I64 v):I64 (nameOf nm v):=by
  unfold nameOf
  split
  · rename_i p hp; exact h p (List.mem_of_find?_eq_some hp)
  · exact hv
section
variable {c:CodeD} {y x:BlockD}
theorem nm_I (oy:BlkOk c y) (iy:BlkI y) (hx:x.ops.length≤6000):∀ p∈nmJ y x,I64 p.2:=fun p hp=>by
  unfold nmJ nmK at hp
  rcases List.mem_append.1 hp with hp | hp
  · unfold argsN at hp
    obtain ⟨⟨v,i⟩,hq,rfl⟩:=List.mem_map.1 hp
    have h1:=List.mk_mem_zipIdx_iff_getElem?.1 hq
    exact iy.2.2.2.1 v (List.mem_of_getElem? h1)
  · obtain ⟨⟨v,i⟩,hq,rfl⟩:=List.mem_map.1 hp
    have h1:=(List.mem_zipIdx' hq).1
    have h2:=dsts_len (x.ops.take x.ops.length)
    rw [List.take_length] at h1 h2
    have h3:=top_bd oy
    exact ⟨by simp; omega,by simp; omega⟩
theorem good_join (oy:BlkOk c y) (iy:BlkI y) (ix:BlkI x) (ly:y.ops.length≤6000) (lx:x.ops.length≤6000) (tx:x.term.args.length≤4∧x.term.args0.length≤999∧x.term.args1.length≤999):GoodB (joinD y x):=by
  have hn:=nm_I oy iy lx
  have hl:∀ l:List Int,(∀ v∈l,I64 v)→∀ v∈l.map (nameOf (nmJ y x)),I64 v:=fun l h v hv=>by
    obtain ⟨u,hu,rfl⟩:=List.mem_map.1 hv; exact name_I hn (h u hu)
  obtain ⟨⟨y1,_⟩,y2,_⟩:=iy
  obtain ⟨⟨_,x2,x3,x4,x5,x6⟩,xo,xa,xa0,xa1,_⟩:=ix
  refine ⟨⟨⟨y1,x2,?_,x4,x5,x6⟩,fun o ho=>?_,hl _ xa,hl _ xa0,hl _ xa1,?_⟩,?_,?_,?_,?_⟩
  · show I64 (if _ then _ else _)
    split
    · exact name_I hn x3
    · exact x3
  · rcases List.mem_append.1 ho with ho | ho
    · exact y2 o ho
    · obtain ⟨u,hu,rfl⟩:=List.mem_map.1 ho
      obtain ⟨u1,u2,u3,u4,u5,u6,u7,u8,u9,u10,u11⟩:=xo u hu
      have hi:∀ (b:Prop) [Decidable b] (v:Int),I64 v→I64 (if b then nameOf (nmJ y x) v else v):=fun b _ v hv=>by
        split
        · exact name_I hn hv
        · exact hv
      exact ⟨u1,hi _ _ u2,hi _ _ u3,hi _ _ u4,u5,u6,u7,u8,u9,hi _ _ u10,u11⟩
  all_goals simp only [joinD,renT_,List.length_append,List.length_map]
  all_goals omega
end
theorem good_of {c:CodeD} (hi:CodeI c) (hf:Fit c):∀ b∈c.blocks,GoodB b:=fun b hb=>by
  have h1:=hf.ops b hb
  have h2:=hf.term b hb
  exact ⟨hi.2.1 b hb,by omega,by omega,by omega,by omega⟩
theorem good_turn {c:CodeD} (hi:CodeI c) (hc:R.check c (totW c.blocks)=0) (hf:Fit c):∀ (k:Nat),∀ b∈turnL c k,GoodB b
  | 0,b,hb=>good_of hi hf b hb
  | k+1,b,hb=>by
    have ih:=good_turn hi hc hf k
    rw [turnL] at hb
    unfold turn1 at hb
    split at hb
    · exact ih b hb
    · rename_i y hy
      split at hb
      · exact ih b hb
      · rename_i x hx
        split at hb
        · rcases List.mem_or_eq_of_mem_set hb with hb | rfl
          · exact ih b hb
          · have my:=List.mem_of_getElem? hy
            have mx:=List.mem_of_getElem? hx
            exact good_join (blk_ok hc hy) (hi.2.1 y my) (hi.2.1 x mx) (hf.ops y my) (hf.ops x mx) (hf.term x mx)
        · exact ih b hb
theorem good_copy {T:List BlockD} (hT:∀ b∈T,GoodB b) (hl:T.length≤400):∀ (k:Nat),∀ b∈copyL T k,GoodB b
  | 0,b,hb=>hT b hb
  | k+1,b,hb=>by
    have ih:=good_copy hT hl k
    have hcl:=copyL_len T k
    rw [copyL] at hb
    unfold copy1 at hb
    split at hb
    · exact ih b hb
    · rename_i y hy
      split at hb
      · rcases List.mem_append.1 hb with hb | hb
        · rcases List.mem_or_eq_of_mem_set hb with hb | rfl
          · exact ih b hb
          · obtain ⟨⟨⟨y1,y2,y3,y4,y5,y6⟩,yo⟩,yl⟩:=hT y (List.mem_of_getElem? hy)
            have ht:∀ v,I64 v→I64 (toC v k (copyL T k).length):=fun v hv=>by
              unfold toC
              split
              · exact ⟨by omega,by omega⟩
              · exact hv
            exact ⟨⟨⟨y1,y2,y3,y4,ht _ y5,ht _ y6⟩,yo⟩,yl⟩
        · simp only [List.mem_singleton] at hb; subst hb
          exact hT _ (List.mem_of_getElem? hy)
      · exact ih b hb
theorem codeI_unr {c:CodeD} (hi:CodeI c) (hc:R.check c (totW c.blocks)=0):CodeI (unrD c):=by
  have hf:=fit_of hi hc
  exact ⟨hi.1,fun b hb=>(good_copy (good_turn hi hc hf _) (by rw [turnL_len]; exact hf.blocks) _ b hb).1,hi.2.2⟩
end Go.Proofs.Ytlkcidmmpeebeaa
