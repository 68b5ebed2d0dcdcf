/- Proved: what a check that is passed says of a block's values,for the layout. No program in sight. -/
import Derived.Test.YtlkcidmmpeebeaaPcK
import Derived.Test.YtlkcidmmpeebeaaUnD
import Derived.Test.YtlkcidmmpeebeaaPcL
import Derived.Test.YtlkcidmmpeebeaaAlM
set_option linter.unusedVariables false
set_option linter.unusedSimpArgs false
namespace Go.Proofs.Ytlkcidmmpeebeaa
open Go.RowKit Go.PX
theorem mxI_ge (x y:Int):x≤mxI x y∧y≤mxI x y:=by unfold mxI; split <;> omega
theorem cnt_ge:∀ (l:List OpD) (n:Int),n≤l.foldl cntStep n∧∀ v∈dsts l,v+1≤l.foldl cntStep n
  | [],n=>⟨Int.le_refl _,fun v h=>by simp [dsts] at h⟩
  | o::l,n=>by
    have ih:=cnt_ge l (cntStep n o)
    have h0:n≤cntStep n o:=by unfold cntStep; split; exact (mxI_ge _ _).1; exact Int.le_refl _
    rw [List.foldl_cons]
    refine ⟨Int.le_trans h0 ih.1,fun v hv=>?_⟩
    cases hd:R.defines o.kind with
    | false =>
      have e:dsts (o::l)=dsts l:=by simp [dsts,hd]
      rw [e] at hv; exact ih.2 v hv
    | true =>
      have e:dsts (o::l)=o.dst::dsts l:=by simp [dsts,hd]
      rw [e] at hv
      rcases List.mem_cons.1 hv with rfl | hv
      · refine Int.le_trans ?_ ih.1
        unfold cntStep; rw [if_pos hd]; exact (mxI_ge _ _).2
      · exact ih.2 v hv
theorem cnt_le:∀ (l:List OpD) (n m:Int),n≤m→(∀ v∈dsts l,v+1≤m)→l.foldl cntStep n≤m
  | [],n,m,h,_=>h
  | o::l,n,m,h,hv=>by
    rw [List.foldl_cons]
    refine cnt_le l _ m ?_ fun v q=>hv v ?_
    · unfold cntStep
      split
      · rename_i hd
        have:=hv o.dst (by simp [dsts,hd])
        unfold mxI; split <;> omega
      · exact h
    · cases hd:R.defines o.kind with
      | false=>simpa [dsts,hd] using q
      | true =>
        have e:dsts (o::l)=o.dst::dsts l:=by simp [dsts,hd]
        rw [e]; exact List.mem_cons_of_mem _ q
theorem cnt_val {c:CodeD} {b:BlockD} (h:BlkOk c b):0≤cntI b∧cntI b≤10000∧b.params≤cntI b∧∀ v∈R.values b,0≤v∧v<cntI b:=by
  have hp:=h.params
  have hd:=(dsts_ok h).1
  have h1:=cnt_ge b.ops b.params
  have h2:=cnt_le b.ops b.params 10000 (by omega) fun v hv=>by have:=hd v hv; omega
  unfold cntI
  refine ⟨by omega,h2,h1.1,fun v hv=>?_⟩
  rw [values_eq2,List.mem_append] at hv
  rcases hv with hv | hv
  · unfold R.upto at hv
    obtain ⟨i,hi,rfl⟩:=List.mem_map.1 hv
    have:=List.mem_range.1 hi
    omega
  · have:=hd v hv; have:=h1.2 v hv; omega
theorem opsFrom_uses {c:CodeD} {p:Int} {all:List Int}:∀ {ops:List OpD} {known:List Int},R.opsFrom c p all known ops=true→(∀ v∈known,v∈all)→(∀ v∈dsts ops,v∈all) →
    ∀ o∈ops,(R.usesA o.kind=true→o.a∈all)∧(R.usesB o.kind=true→o.b∈all)∧(o.kind=21→o.sk=2→o.sv∈all)
  | [],_,_,_,_,o,ho=>by cases ho
  | x::os,known,h,hk,hd,o,ho=>by
    simp only [R.opsFrom,Bool.and_eq_true] at h
    obtain ⟨⟨⟨h1,_⟩,h3⟩,h4⟩:=h
    have hd':∀ v∈dsts os,v∈all:=fun v hv=>hd v (by
      cases e:R.defines x.kind with
      | false=>simpa [dsts,e] using hv
      | true =>
        have e':dsts (x::os)=x.dst::dsts os:=by simp [dsts,e]
        rw [e']; exact List.mem_cons_of_mem _ hv)
    rcases List.mem_cons.1 ho with rfl | ho
    · unfold R.head at h1
      simp only [Bool.not_eq_true',Bool.or_eq_false_iff,Bool.and_eq_false_iff,Bool.not_eq_false'] at h1
      refine ⟨fun q=>?_,fun q=>?_,fun q1 q2=>?_⟩
      · rcases h1.1.2 with r | r
        · rw [q] at r; cases r
        · exact hk _ ((has_iff known o.a).1 r)
      · rcases h1.2 with r | r
        · rw [q] at r; cases r
        · exact hk _ ((has_iff known o.b).1 r)
      · unfold R.tail at h3
        rw [q1] at h3
        simp only [Int.reduceBEq,Bool.or_false,Bool.false_eq_true,if_false,if_true,Bool.and_eq_true] at h3
        have h5:=h3.2
        unfold R.source at h5
        rw [q2] at h5
        simp only [Int.reduceBEq,Bool.false_eq_true,if_false,if_true] at h5
        exact (has_iff all o.sv).1 h5
    · refine opsFrom_uses h4 (fun v hv=>?_) hd' o ho
      split at hv
      · rename_i e
        rcases List.mem_append.1 hv with hv | hv
        · exact hk v hv
        · simp only [List.mem_singleton] at hv; subst hv
          exact hd _ (by simp [dsts,e])
      · exact hk v hv
theorem term_vals {c:CodeD} {b:BlockD} (h:R.term c b=true):(∀ v∈b.term.args0,v∈R.values b)∧(∀ v∈b.term.args1,v∈R.values b):=by
  have he:∀ {blk:Int} {args:List Int} {more:Int},R.edge c blk args (R.values b) more=true→∀ v∈args,v∈R.values b:=fun {blk args more} q v hv=>(has_iff _ _).1 ((edge_ok q).2.2.2 v hv)
  have hn:∀ {blk:Int} {args:List Int},R.none_ blk args=true→∀ v∈args,v∈R.values b:=fun {blk args} q v hv=>by
    unfold R.none_ at q
    simp only [Bool.and_eq_true,beq_iff_eq] at q
    rw [List.length_eq_zero_iff.1 q.2] at hv; cases hv
  unfold R.term at h
  simp only at h
  split at h
  · cases h
  split at h
  · cases h
  split at h
  · simp only [Bool.and_eq_true] at h; exact ⟨he h.1,hn h.2⟩
  split at h
  · simp only [Bool.and_eq_true] at h; exact ⟨he h.1,he h.2⟩
  split at h
  · simp only [Bool.and_eq_true,Bool.or_eq_true] at h
    refine ⟨he h.1,?_⟩
    rcases h.2 with q | q
    · exact hn q
    · exact he q
  split at h
  · simp only [Bool.and_eq_true] at h; exact ⟨hn h.1,hn h.2⟩
  · cases h
def cnD (b:BlockD):Nat:=(cntI b).toNat
theorem aok_of {c:CodeD} {t:Int} (hf:Fit c) (h:R.check c t=0) {b:BlockD} {k:Nat} (hb:c.blocks[k]?=some b):AOk (cnD b) b∧b.params≤(cnD b:Int)∧cntI b=(cnD b:Int)∧0≤b.params∧b.params≤999∧b.ops.length≤6000∧b.term.args0.length≤999∧b.term.args1.length≤999:=by
  have ok:=blk_ok h hb
  have hm:=List.mem_of_getElem? hb
  obtain ⟨c1,c2,c3,c4⟩:=cnt_val ok
  have hcn:cntI b=(cnD b:Int):=by unfold cnD; omega
  have hd:∀ v∈dsts b.ops,v∈R.values b:=fun v hv=>by rw [values_eq2]; exact List.mem_append_right _ hv
  have hu:=opsFrom_uses (known:=R.upto b.params) ok.ops (fun v hv=>by rw [values_eq2]; exact List.mem_append_left _ hv) hd
  have hv:∀ v∈R.values b,0≤v∧v<(cnD b:Int):=fun v q=>by rw [← hcn]; exact c4 v q
  have hf1:=hf.ops b hm
  obtain ⟨t1,t2,t3⟩:=hf.term b hm
  refine ⟨⟨by omega,by omega,fun o ho q=>?_,fun o ho q=>hv _ ((hu o ho).1 q),fun o ho q=>hv _ ((hu o ho).2.1 q),⟨by omega,by omega,by omega⟩,fun v q=>hv v ?_,fun o ho q1 q2=>hv _ ((hu o ho).2.2 q1 q2)⟩,by omega,hcn,ok.params.1,ok.params.2,by omega,t2,t3⟩
  · exact hv _ (hd _ (List.mem_map.2 ⟨o,List.mem_filter.2 ⟨ho,q⟩,rfl⟩))
  · have tk:=term_ok ok.term
    obtain ⟨e0,e1⟩:=term_vals ok.term
    unfold termU at q
    rcases List.mem_append.1 q with q | q
    · split at q
      · rename_i ha
        simp only [List.mem_singleton] at q; subst q
        exact (has_iff _ _).1 (tk.a (by simpa [or_assoc] using ha))
      · split at q
        · exact (has_iff _ _).1 (tk.args v q)
        · cases q
    · rcases List.mem_append.1 q with q | q
      · split at q
        · exact e0 v q
        · cases q
      · split at q
        · exact e1 v q
        · cases q
end Go.Proofs.Ytlkcidmmpeebeaa

/- Proved: the program's last uses are the document's,for code that passes the check. No program in sight. -/
namespace Go.Proofs.Ytlkcidmmpeebeaa
open Go.RowKit Go.PX

/-! how many values there are -/
theorem mxf_ge:∀ (l:List Int) (n:Int),n≤l.foldl mx n∧∀ v∈l,v≤l.foldl mx n
  | [],n=>⟨Int.le_refl _,fun v h=>by cases h⟩
  | x::l,n=>by
    have ih:=mxf_ge l (mx n x)
    have h0:n≤mx n x∧x≤mx n x:=by unfold mx; split <;> omega
    rw [List.foldl_cons]
    refine ⟨by omega,fun v hv=>?_⟩
    rcases List.mem_cons.1 hv with rfl | hv
    · omega
    · exact ih.2 v hv
theorem mxf_le:∀ (l:List Int) (n m:Int),n≤m→(∀ v∈l,v≤m)→l.foldl mx n≤m
  | [],n,m,h,_=>h
  | x::l,n,m,h,hv=>by
    rw [List.foldl_cons]
    refine mxf_le l _ m ?_ fun v q=>hv v (by simp [q])
    have:=hv x (by simp)
    unfold mx; split <;> omega
theorem top_cnt {c:CodeD} {b:BlockD} (h:BlkOk c b):topD b+1=cntI b:=by
  have hp:=h.params
  have hd:=(dsts_ok h).1
  have t1:=mxf_ge (R.values b) (b.params-1)
  have t2:=cnt_ge b.ops b.params
  have e1:cntI b≤topD b+1:=by
    unfold cntI topD
    refine cnt_le b.ops b.params _ (by omega) fun v hv=>?_
    have:=t1.2 v (by rw [values_eq2]; exact List.mem_append_right _ hv)
    omega
  have e2:topD b≤cntI b-1:=by
    unfold topD
    refine mxf_le _ _ _ (by unfold cntI; omega) fun v hv=>?_
    have:=(cnt_val h).2.2.2 v hv
    omega
  omega

/-! lists of last uses,told by what is used -/
def Lst (l:List Int) (E:Nat→Nat→Prop):Prop:=∀ v,v<l.length→(l[v]?=some (-1)∧∀ k,¬ E v k)∨(∃ k:Nat,l[v]?=some (k:Int)∧E v k∧∀ k',E v k'→k'≤k)
theorem Lst.congr {l:List Int} {E E':Nat→Nat→Prop} (h:Lst l E) (he:∀ v k,E v k↔E' v k):Lst l E':=fun v hv=>by
  rcases h v hv with ⟨h1,h2⟩ | ⟨k,h1,h2,h3⟩
  · exact .inl ⟨h1,fun k q=>h2 k ((he v k).2 q)⟩
  · exact .inr ⟨k,h1,(he v k).1 h2,fun k' q=>h3 k' ((he v k').2 q)⟩
theorem Lst.eq {l l':List Int} {E:Nat→Nat→Prop} (h:Lst l E) (h':Lst l' E) (hl:l.length=l'.length):l=l':=by
  apply List.ext_getElem?
  intro v
  rcases Nat.lt_or_ge v l.length with hv | hv
  · rcases h v hv with ⟨h1,h2⟩ | ⟨k,h1,h2,h3⟩
    · rcases h' v (by omega) with ⟨g1,_⟩ | ⟨k',_,g2,_⟩
      · rw [h1,g1]
      · exact absurd g2 (h2 k')
    · rcases h' v (by omega) with ⟨_,g2⟩ | ⟨k',g1,g2,g3⟩
      · exact absurd h2 (g2 k)
      · rw [h1,g1]
        have:=h3 k' g2
        have:=g3 k h2
        rw [show k=k' by omega]
  · rw [List.getElem?_eq_none hv,List.getElem?_eq_none (by omega)]
theorem Lst.set {l:List Int} {E:Nat→Nat→Prop} (h:Lst l E) {x n:Nat} (hx:∀ k',E x k'→k'≤n):Lst (l.set x (n:Int)) (fun v k=>E v k∨(v=x∧k=n)):=fun v hv=>by
  rw [List.length_set] at hv
  by_cases e:x=v
  · subst e
    refine .inr ⟨n,by rw [List.getElem?_set_self hv],.inr ⟨rfl,rfl⟩,fun k' hk=>?_⟩
    rcases hk with hk | ⟨_,rfl⟩
    · exact hx k' hk
    · exact Nat.le_refl _
  · rw [List.getElem?_set_ne e]
    rcases h v hv with ⟨h1,h2⟩ | ⟨k,h1,h2,h3⟩
    · exact .inl ⟨h1,fun k q=>by rcases q with q | ⟨q,_⟩; exact h2 k q; exact e q.symm⟩
    · exact .inr ⟨k,h1,.inl h2,fun k' q=>by rcases q with q | ⟨q,_⟩; exact h3 k' q; exact absurd q.symm e⟩
theorem Lst.use {l:List Int} {E:Nat→Nat→Prop} (h:Lst l E) (u:Int) (n:Nat):Lst (useD l u (n:Int)) (fun v k=>E v k∨(v=u.toNat∧k=n)):=fun v hv=>by
  rw [useD_len] at hv
  unfold useD
  by_cases e:u.toNat=v
  · subst e
    rw [List.getElem?_set_self hv]
    rcases h u.toNat hv with ⟨h1,h2⟩ | ⟨k,h1,h2,h3⟩
    · refine .inr ⟨n,?_,.inr ⟨rfl,rfl⟩,fun k' hk=>?_⟩
      · rw [h1]; unfold mxI; simp only [Option.getD_some]; rw [if_pos (by omega)]
      · rcases hk with hk | ⟨_,rfl⟩
        · exact absurd hk (h2 k')
        · exact Nat.le_refl _
    · rw [h1]
      simp only [Option.getD_some]
      by_cases hkn:(n:Int) > (k:Int)
      · refine .inr ⟨n,by unfold mxI; rw [if_pos hkn],.inr (by simp),fun k' hk=>?_⟩
        rcases hk with hk | ⟨_,rfl⟩
        · have:=h3 k' hk; omega
        · exact Nat.le_refl _
      · refine .inr ⟨k,by unfold mxI; rw [if_neg hkn],.inl h2,fun k' hk=>?_⟩
        rcases hk with hk | ⟨_,rfl⟩
        · exact h3 k' hk
        · omega
  · rw [List.getElem?_set_ne e]
    rcases h v hv with ⟨h1,h2⟩ | ⟨k,h1,h2,h3⟩
    · exact .inl ⟨h1,fun k q=>by rcases q with q | ⟨q,_⟩; exact h2 k q; exact e q.symm⟩
    · exact .inr ⟨k,h1,.inl h2,fun k' q=>by rcases q with q | ⟨q,_⟩; exact h3 k' q; exact absurd q.symm e⟩
theorem Lst.uses {n:Nat}:∀ (us:List Int) {l:List Int} {E:Nat→Nat→Prop},Lst l E→Lst (us.foldl (fun l v=>useD l v (n:Int)) l) (fun v k=>E v k∨(k=n∧∃ u∈us,v=u.toNat))
  | [],l,E,h=>h.congr fun v k=>by simp
  | u::us,l,E,h=>(Lst.uses us (h.use u n)).congr fun v k=>by
    constructor
    · rintro ((q | ⟨q1,q2⟩) | ⟨q1,u',q2,q3⟩)
      · exact .inl q
      · exact .inr ⟨q2,u,by simp,q1⟩
      · exact .inr ⟨q1,u',by simp [q2],q3⟩
    · rintro (q | ⟨q1,u',q2,q3⟩)
      · exact .inl (.inl q)
      · rcases List.mem_cons.1 q2 with rfl | q2
        · exact .inl (.inr ⟨q3,q1⟩)
        · exact .inr ⟨q1,u',q2,q3⟩
theorem Lst.sets {n:Nat}:∀ (us:List Int) {l:List Int} {E:Nat→Nat→Prop},Lst l E→(∀ v k,E v k→k≤n)→Lst (setAll l n us) (fun v k=>E v k∨(k=n∧∃ u∈us,v=u.toNat))
  | [],l,E,h,_=>h.congr fun v k=>by simp
  | u::us,l,E,h,hn=>(Lst.sets us (h.set (x:=u.toNat) (n:=n) (fun k' q=>hn _ k' q)) (fun v k q=>by rcases q with q | ⟨_,q⟩; exact hn v k q; omega)).congr fun v k=>by
    constructor
    · rintro ((q | ⟨q1,q2⟩) | ⟨q1,u',q2,q3⟩)
      · exact .inl q
      · exact .inr ⟨q2,u,by simp,q1⟩
      · exact .inr ⟨q1,u',by simp [q2],q3⟩
    · rintro (q | ⟨q1,u',q2,q3⟩)
      · exact .inl (.inl q)
      · rcases List.mem_cons.1 q2 with rfl | q2
        · exact .inl (.inr ⟨q3,q1⟩)
        · exact .inr ⟨q1,u',q2,q3⟩
theorem Lst.none (n:Nat):Lst (List.replicate n (-1)) (fun _ _=>False):=fun v hv=>.inl ⟨by simp at hv; simp [hv],fun _ q=>q⟩
/-! events -/
def EvD (b:BlockD) (m v k:Nat):Prop:=k<m∧∃ o,b.ops[k]?=some o∧R.defines o.kind=true∧v=o.dst.toNat
def EvU (b:BlockD) (U:OpD→Nat→List Int) (m v k:Nat):Prop:=k<m∧∃ o,b.ops[k]?=some o∧∃ u∈U o k,v=u.toNat
theorem lt_succ_cases {P:Nat→Prop} {m k:Nat}:(k<m+1∧P k)↔(k<m∧P k)∨(k=m∧P m):=by
  constructor
  · rintro ⟨h,hp⟩
    rcases Nat.lt_or_ge k m with q | q
    · exact .inl ⟨q,hp⟩
    · obtain rfl:k=m:=by omega
      exact .inr ⟨rfl,hp⟩
  · rintro (⟨h,hp⟩ | ⟨rfl,hp⟩)
    · exact ⟨by omega,hp⟩
    · exact ⟨by omega,hp⟩
theorem evD_succ {b:BlockD} {m:Nat} {y:OpD} (hy:b.ops[m]?=some y) (v k:Nat):EvD b (m+1) v k↔EvD b m v k∨(k=m∧R.defines y.kind=true∧v=y.dst.toNat):=by
  unfold EvD
  rw [lt_succ_cases (P:=fun k=>∃ o,b.ops[k]?=some o∧R.defines o.kind=true∧v=o.dst.toNat)]
  refine or_congr Iff.rfl (and_congr Iff.rfl ⟨fun ⟨o,h1,h2⟩=>?_,fun h=>⟨y,hy,h⟩⟩)
  rw [hy] at h1; injection h1 with h1; subst h1; exact h2
theorem evU_succ {b:BlockD} {U:OpD→Nat→List Int} {m:Nat} {y:OpD} (hy:b.ops[m]?=some y) (v k:Nat):EvU b U (m+1) v k↔EvU b U m v k∨(k=m∧∃ u∈U y m,v=u.toNat):=by
  unfold EvU
  rw [lt_succ_cases (P:=fun k=>∃ o,b.ops[k]?=some o∧∃ u∈U o k,v=u.toNat)]
  refine or_congr Iff.rfl (and_congr Iff.rfl ⟨fun ⟨o,h1,h2⟩=>?_,fun h=>⟨y,hy,h⟩⟩)
  rw [hy] at h1; injection h1 with h1; subst h1; exact h2
theorem evD_zero (b:BlockD) (v k:Nat):¬ EvD b 0 v k:=fun h=>by have:=h.1; omega
theorem evU_zero (b:BlockD) (U:OpD→Nat→List Int) (v k:Nat):¬ EvU b U 0 v k:=fun h=>by have:=h.1; omega
/-- the document's -/
theorem lastK_lst (keep:Bool) (b:BlockD):∀ m,m≤b.ops.length→Lst (lastK keep b m) (fun v k=>EvD b m v k∨EvU b (fun o k=>usesR b k keep o) m v k)
  | 0,_=>(Lst.none _).congr fun v k=>⟨False.elim,fun h=>h.elim (evD_zero b v k) (evU_zero b _ v k)⟩
  | m+1,hm=>by
    obtain ⟨y,hy⟩:=get_of_lt (show m<b.ops.length by omega)
    have ih:=lastK_lst keep b m (by omega)
    have hb:∀ v k,(EvD b m v k∨EvU b (fun o k=>usesR b k keep o) m v k)→k≤m:=fun v k h=>by
      rcases h with h | h <;> have:=h.1 <;> omega
    rw [lastK_succ hy]
    have hdef:Lst (defI (lastK keep b m) y m) (fun v k=>(EvD b m v k∨EvU b (fun o k=>usesR b k keep o) m v k)∨(k=m∧R.defines y.kind=true∧v=y.dst.toNat)):=by
      unfold defI
      split
      · rename_i hd
        exact (ih.set (fun k' q=>hb _ k' q)).congr fun v k=>or_congr Iff.rfl ⟨fun ⟨h1,h2⟩=>⟨h2,hd,h1⟩,fun ⟨h1,_,h2⟩=>⟨h2,h1⟩⟩
      · rename_i hd
        exact ih.congr fun v k=>⟨.inl,fun h=>h.elim id fun ⟨_,h2,_⟩=>absurd h2 hd⟩
    refine (Lst.sets (n:=m) (usesR b m keep y) hdef (fun v k h=>?_)).congr fun v k=>?_
    · rcases h with h | ⟨h,_⟩
      · exact hb v k h
      · omega
    · rw [evD_succ hy,evU_succ hy]
      constructor
      · rintro ((( h | h) | h) | h)
        · exact .inl (.inl h)
        · exact .inr (.inl h)
        · exact .inl (.inr h)
        · exact .inr (.inr h)
      · rintro ((h | h) | (h | h))
        · exact .inl (.inl (.inl h))
        · exact .inl (.inr h)
        · exact .inl (.inl (.inr h))
        · exact .inr h
theorem lastR_lst (keep:Bool) (b:BlockD):Lst (lastR keep b) (fun v k=>(EvD b b.ops.length v k∨EvU b (fun o k=>usesR b k keep o) b.ops.length v k)∨(k=b.ops.length∧∃ u∈endsR b.term,v=u.toNat)):=by
  unfold lastR
  refine Lst.sets _ (lastK_lst keep b _ (Nat.le_refl _)) fun v k h=>?_
  rcases h with h | h <;> have:=h.1 <;> omega
/-- the program's -/
theorem defK_lst (cn:Nat) (b:BlockD):∀ m,m≤b.ops.length→Lst (defK cn b.ops m) (EvD b m)
  | 0,_=>(Lst.none _).congr fun v k=>⟨False.elim,fun h=>evD_zero b v k h⟩
  | m+1,hm=>by
    obtain ⟨y,hy⟩:=get_of_lt (show m<b.ops.length by omega)
    have ih:=defK_lst cn b m (by omega)
    have e:defK cn b.ops (m+1)=defI (defK cn b.ops m) y m:=by unfold defK; rw [fold_take _ _ hy]
    rw [e]
    unfold defI
    split
    · rename_i hd
      exact (ih.set (fun k' q=>by have:=q.1; omega)).congr fun v k=>by
        rw [evD_succ hy]
        exact or_congr Iff.rfl ⟨fun ⟨h1,h2⟩=>⟨h2,hd,h1⟩,fun ⟨h1,_,h2⟩=>⟨h2,h1⟩⟩
    · rename_i hd
      exact ih.congr fun v k=>by
        rw [evD_succ hy]
        exact ⟨.inl,fun h=>h.elim id fun ⟨_,h2,_⟩=>absurd h2 hd⟩
def usesAB (o:OpD) (_:Nat):List Int:=uA o++uB o
theorem useK_lst (cn:Nat) (b:BlockD):∀ m,m≤b.ops.length→Lst (useK cn b.ops m) (fun v k=>EvD b b.ops.length v k∨EvU b usesAB m v k)
  | 0,_=>(defK_lst cn b b.ops.length (Nat.le_refl _)).congr fun v k=>⟨.inl,fun h=>h.elim id fun q=>absurd q (evU_zero b _ v k)⟩
  | m+1,hm=>by
    obtain ⟨y,hy⟩:=get_of_lt (show m<b.ops.length by omega)
    have ih:=useK_lst cn b m (by omega)
    have e:useK cn b.ops (m+1)=(usesAB y m).foldl (fun l v=>useD l v (m:Int)) (useK cn b.ops m):=by
      unfold useK; rw [fold_take _ _ hy]
      unfold use2 use1 usesAB uA uB
      split <;> split <;> simp
    rw [e]
    exact (Lst.uses _ ih).congr fun v k=>by rw [evU_succ hy,or_assoc]
theorem endK_lst (cn:Nat) (b:BlockD):Lst (endK cn b (termU b.term).length) (fun v k=>(EvD b b.ops.length v k∨EvU b usesAB b.ops.length v k)∨(k=b.ops.length∧∃ u∈termU b.term,v=u.toNat)):=by
  unfold endK
  rw [List.take_length]
  exact Lst.uses _ (useK_lst cn b _ (Nat.le_refl _))
/-- the marks of an operation -/
def marksD (df:List Int) (b:BlockD) (l0:List Int) (o:OpD) (k:Nat):List Int :=
  if o.kind=19∨o.kind=20 then (((markK df b.ops l0 k).1.map (·.2)).filter fun v=>decide (v.1=2)&&decide (PX.g df v.2.1.toNat<(k:Int))).map fun v=>v.2.1 else []
theorem mark_uses (df:List Int) (k:Nat):∀ (vs:List (Int × Int × Int)) (l:List Int),vs.foldl (mark1 df k) l=((vs.filter fun v=>decide (v.1=2)&&decide (PX.g df v.2.1.toNat<(k:Int))).map fun v=>v.2.1).foldl (fun l v=>useD l v (k:Int)) l
  | [],l=>rfl
  | v::vs,l=>by
    rw [List.foldl_cons,mark_uses,List.filter_cons]
    unfold mark1 PX.g
    by_cases h1:v.1=2 <;> by_cases h2:(df[v.2.1.toNat]?).getD 0<(k:Int) <;> simp [h1,h2]
theorem markK_lst (df:List Int) (b:BlockD) (l0:List Int) {E:Nat→Nat→Prop} (h0:Lst l0 E):∀ m,m≤b.ops.length→Lst (markK df b.ops l0 m).2 (fun v k=>E v k∨EvU b (marksD df b l0) m v k)
  | 0,_=>h0.congr fun v k=>⟨.inl,fun h=>h.elim id fun q=>absurd q (evU_zero b _ v k)⟩
  | m+1,hm=>by
    obtain ⟨y,hy⟩:=get_of_lt (show m<b.ops.length by omega)
    have ih:=markK_lst df b l0 h0 m (by omega)
    have e:(markK df b.ops l0 (m+1)).2=(marksD df b l0 y m).foldl (fun l v=>useD l v (m:Int)) (markK df b.ops l0 m).2:=by
      have e0:markK df b.ops l0 (m+1)=markStep df (markK df b.ops l0 m) (y,m):=by unfold markK; rw [fold_take _ _ hy]
      rw [e0]
      unfold markStep marksD
      by_cases h21:y.kind=21
      · rw [if_pos h21,if_neg (by omega)]; rfl
      · rw [if_neg h21]
        by_cases hk:y.kind=19∨y.kind=20
        · rw [if_pos hk,if_pos hk]; exact mark_uses df m _ _
        · rw [if_neg hk,if_neg hk]; rfl
    rw [e]
    exact (Lst.uses _ ih).congr fun v k=>by rw [evU_succ hy,or_assoc]
end Go.Proofs.Ytlkcidmmpeebeaa

/- Proved: what a Mark uses,in the program and in the document; the last uses are equal. No program in sight. -/
namespace Go.Proofs.Ytlkcidmmpeebeaa
open Go.RowKit Go.PX
def keyD (o:OpD):Int × Int × Int:=(o.ctx,o.var,o.piece)
def srcD (o:OpD):Int × Int × Int:=(o.sk,o.sv,o.sa)
theorem bef_iff (a b:OpD):beforeD a b=true↔a.ctx<b.ctx∨(a.ctx=b.ctx∧(a.var<b.var∨(a.var=b.var∧a.piece<b.piece))):=by
  unfold beforeD
  simp only [bne_iff_ne,ne_eq]
  split
  · simp only [decide_eq_true_eq]; omega
  · split
    · simp only [decide_eq_true_eq]; omega
    · simp only [decide_eq_true_eq]; omega
theorem key_iff (a b:OpD):keyD a=keyD b↔a.ctx=b.ctx∧a.var=b.var∧a.piece=b.piece:=by unfold keyD; simp
theorem bef_key {a b:OpD} (h:beforeD a b=true):keyD a≠keyD b:=fun e=>by
  rw [bef_iff] at h; rw [key_iff] at e; omega
theorem bef_trans {a b c:OpD} (h:beforeD a b=true) (k:beforeD b c=true):beforeD a c=true:=by
  rw [bef_iff] at h k ⊢; omega
theorem bef_congr {a b c:OpD} (e:keyD a=keyD b) (h:beforeD a c=true):beforeD b c=true:=by
  rw [bef_iff] at h ⊢; rw [key_iff] at e; omega
theorem bef_no {a b:OpD} (h:beforeD a b=false) (k:beforeD b a=false):keyD a=keyD b:=by
  rw [← Bool.not_eq_true,bef_iff] at h k
  rw [key_iff]; omega
theorem curAt_spec (l:List OpD) (o:OpD):curAt l o≤l.length∧(∀ i y,i<curAt l o→l[i]?=some y→beforeD y o=true)∧∀ y,l[curAt l o]?=some y→beforeD y o=false:=by
  have hg:∀ {i:Nat} {y:OpD},l[i]?=some y→gO l i=y:=fun {i y} h=>by unfold gO; rw [h]; rfl
  unfold curAt
  cases hf:(List.range l.length).find? fun i=>!beforeD (gO l i) o with
  | none =>
    refine ⟨Nat.le_refl _,fun i y hi hy=>?_,fun y hy=>?_⟩
    · have:=List.find?_eq_none.1 hf i (List.mem_range.2 hi)
      rw [hg hy] at this; simpa using this
    · simp at hy
  | some j =>
    obtain ⟨h1,ps,bs,h2,h3⟩:=List.find?_eq_some_iff_append.1 hf
    have hj:j<l.length:=by
      have:j∈List.range l.length:=by rw [h2]; simp
      exact List.mem_range.1 this
    have hlen:ps.length=j:=by
      have e:=congrArg (fun q:List Nat=>q[ps.length]?) h2
      simp only [List.getElem?_append_right (Nat.le_refl _),Nat.sub_self,List.getElem?_cons_zero] at e
      obtain ⟨q1,q2⟩:=List.getElem?_eq_some_iff.1 e
      simpa using q2
    refine ⟨by simp only [Option.getD_some]; omega,fun i y hi hy=>?_,fun y hy=>?_⟩
    · simp only [Option.getD_some] at hi
      have hm:i∈ps:=by
        have e:=congrArg (fun q:List Nat=>q[i]?) h2
        simp only [List.getElem?_append_left (show i<ps.length by omega)] at e
        rw [List.getElem?_range (by omega)] at e
        exact List.mem_of_getElem? e.symm
      have:=h3 i hm
      rw [hg hy] at this; simpa using this
    · simp only [Option.getD_some] at hy
      rw [hg hy] at h1; simpa using h1
def Srt (l:List OpD):Prop:=l.Pairwise fun a b=>beforeD a b=true
theorem srt_get {l:List OpD} (h:Srt l) {i j:Nat} {x y:OpD} (hi:l[i]?=some x) (hj:l[j]?=some y) (hij:i<j):beforeD x y=true:=by
  obtain ⟨h1,rfl⟩:=List.getElem?_eq_some_iff.1 hi
  obtain ⟨h2,rfl⟩:=List.getElem?_eq_some_iff.1 hj
  exact List.pairwise_iff_getElem.1 h i j h1 h2 hij
theorem curIns_spec {l:List OpD} (h:Srt l) (o:OpD):Srt (curIns l o)∧∀ x,x∈curIns l o↔x=o∨(x∈l∧keyD x≠keyD o):=by
  obtain ⟨a1,a2,a3⟩:=curAt_spec l o
  unfold curIns
  generalize curAt l o=at_ at a1 a2 a3
  have hg:∀ {i:Nat} {y:OpD},l[i]?=some y→gO l i=y:=fun {i y} h=>by unfold gO; rw [h]; rfl
  have htake:∀ x∈l.take at_,x∈l∧beforeD x o=true:=fun x hx=>by
    obtain ⟨i,hi⟩:=List.getElem?_of_mem hx
    rw [List.getElem?_take] at hi
    split at hi
    · rename_i q; exact ⟨List.mem_of_getElem? hi,a2 i x q hi⟩
    · cases hi
  -- the rest that stays
  have key:∃ d,(d=at_∨d=at_+1)∧(if (decide (((at_:Nat):Int)<((l.length:Nat):Int))&&!beforeD o (gO l at_))=true then l.drop (at_+1) else l.drop at_)=l.drop d∧(∀ x∈l.drop d,x∈l∧beforeD o x=true)∧(∀ i x,at_≤i→i<d→l[i]?=some x→keyD x=keyD o):=by
    by_cases hc:(decide (((at_:Nat):Int)<((l.length:Nat):Int))&&!beforeD o (gO l at_))=true
    · refine ⟨at_+1,.inr rfl,if_pos hc,fun x hx=>?_,fun i x h1 h2 hi=>?_⟩
      · simp only [Bool.and_eq_true,decide_eq_true_eq,Bool.not_eq_true'] at hc
        obtain ⟨y,hy⟩:=get_of_lt (show at_<l.length by omega)
        rw [hg hy] at hc
        have hk:=bef_no (a3 y hy) hc.2
        obtain ⟨j,hj⟩:=List.getElem?_of_mem hx
        rw [List.getElem?_drop] at hj
        exact ⟨List.mem_of_getElem? hj,bef_congr hk (srt_get h hy hj (by omega))⟩
      · obtain rfl:i=at_:=by omega
        simp only [Bool.and_eq_true,decide_eq_true_eq,Bool.not_eq_true'] at hc
        rw [hg hi] at hc
        exact bef_no (a3 x hi) hc.2
    · refine ⟨at_,.inl rfl,if_neg hc,fun x hx=>?_,fun i x h1 h2 hi=>by omega⟩
      obtain ⟨j,hj⟩:=List.getElem?_of_mem hx
      rw [List.getElem?_drop] at hj
      have hlt:at_<l.length:=by have:=(List.getElem?_eq_some_iff.1 hj).1; omega
      obtain ⟨y,hy⟩:=get_of_lt hlt
      have hoy:beforeD o y=true:=by
        rw [show decide (((at_:Nat):Int)<((l.length:Nat):Int))=true by simpa using hlt,hg hy] at hc
        simpa using hc
      refine ⟨List.mem_of_getElem? hj,?_⟩
      rcases Nat.eq_zero_or_pos j with rfl | hj0
      · rw [Nat.add_zero,hy] at hj; injection hj with hj; subst hj; exact hoy
      · exact bef_trans hoy (srt_get h hy hj (by omega))
  obtain ⟨d,hd,he,hdrop,hmid⟩:=key
  rw [he]
  refine ⟨?_,fun x=>?_⟩
  · refine List.pairwise_append.2 ⟨List.pairwise_append.2 ⟨h.sublist (List.take_sublist _ _),List.pairwise_singleton _ _,fun x hx y hy=>?_⟩,h.sublist (List.drop_sublist _ _),fun x hx y hy=>?_⟩
    · simp only [List.mem_singleton] at hy; subst hy; exact (htake x hx).2
    · rcases List.mem_append.1 hx with hx | hx
      · exact bef_trans (htake x hx).2 (hdrop y hy).2
      · simp only [List.mem_singleton] at hx; subst hx; exact (hdrop y hy).2
  · simp only [List.mem_append,List.mem_singleton]
    constructor
    · rintro ((hx | hx) | hx)
      · exact .inr ⟨(htake x hx).1,bef_key (htake x hx).2⟩
      · exact .inl hx
      · exact .inr ⟨(hdrop x hx).1,fun e=>bef_key (hdrop x hx).2 e.symm⟩
    · rintro (hx | ⟨hx,hk⟩)
      · exact .inl (.inr hx)
      · obtain ⟨i,hi⟩:=List.getElem?_of_mem hx
        rcases Nat.lt_or_ge i at_ with q | q
        · exact .inl (.inl (List.mem_of_getElem? (i:=i) (by rw [List.getElem?_take,if_pos q]; exact hi)))
        · rcases Nat.lt_or_ge i d with q' | q'
          · exact absurd (hmid i x q q' hi) hk
          · exact .inr (List.mem_of_getElem? (i:=i-d) (by rw [List.getElem?_drop,show d+(i-d)=i by omega]; exact hi))
theorem setS_mem (m:MapS) (k v:Int × Int × Int) (p:(Int × Int × Int) × (Int × Int × Int)):p∈setS m k v↔p=(k,v)∨(p∈m∧p.1≠k):=by
  unfold setS
  split
  · rename_i ha
    obtain ⟨q,hq,hqk⟩:=List.any_eq_true.1 ha
    rw [List.mem_map]
    constructor
    · rintro ⟨r,hr,rfl⟩
      split
      · exact .inl rfl
      · rename_i hn; exact .inr ⟨hr,fun e=>hn (by rw [e]; simp)⟩
    · rintro (rfl | ⟨hp,hn⟩)
      · exact ⟨q,hq,if_pos hqk⟩
      · exact ⟨p,hp,if_neg (fun e=>hn (eq_of_beq e))⟩
  · rename_i ha
    rw [List.mem_append,List.mem_singleton]
    constructor
    · rintro (hp | hp)
      · exact .inr ⟨hp,fun e=>ha (List.any_eq_true.2 ⟨p,hp,by rw [e]; simp⟩)⟩
      · exact .inl hp
    · rintro (hp | ⟨hp,_⟩)
      · exact .inr hp
      · exact .inl hp
theorem cur_mark (df:List Int) (ops:List OpD) (l0:List Int):∀ k,k≤ops.length→Srt (curD (ops.take k))∧∀ p,p∈(markK df ops l0 k).1↔∃ o∈curD (ops.take k),(keyD o,srcD o)=p
  | 0,_=>⟨List.Pairwise.nil,fun p=>by simp [markK,curD]⟩
  | k+1,hk=>by
    obtain ⟨y,hy⟩:=get_of_lt (show k<ops.length by omega)
    obtain ⟨i1,i2⟩:=cur_mark df ops l0 k (by omega)
    have e0:markK df ops l0 (k+1)=markStep df (markK df ops l0 k) (y,k):=by unfold markK; rw [fold_take _ _ hy]
    rw [e0,curD_succ hy]
    unfold markStep curStep
    by_cases h21:y.kind=21
    · rw [if_pos h21,if_pos h21]
      obtain ⟨j1,j2⟩:=curIns_spec i1 y
      refine ⟨j1,fun p=>?_⟩
      simp only
      rw [setS_mem,i2]
      constructor
      · rintro (rfl | ⟨⟨o,ho,rfl⟩,hn⟩)
        · exact ⟨y,(j2 y).2 (.inl rfl),rfl⟩
        · exact ⟨o,(j2 o).2 (.inr ⟨ho,hn⟩),rfl⟩
      · rintro ⟨o,ho,rfl⟩
        rcases (j2 o).1 ho with rfl | ⟨ho,hn⟩
        · exact .inl rfl
        · exact .inr ⟨⟨o,ho,rfl⟩,hn⟩
    · rw [if_neg h21,if_neg h21]
      refine ⟨i1,fun p=>?_⟩
      split <;> exact i2 p
theorem dst_uniq:∀ {ops:List OpD},(dsts ops).Nodup→∀ {i j:Nat} {o o':OpD},ops[i]?=some o→ops[j]?=some o'→R.defines o.kind=true→R.defines o'.kind=true→o.dst=o'.dst→i=j
  | [],_,i,j,o,o',hi,_,_,_,_=>by simp at hi
  | x::ops,hn,i,j,o,o',hi,hj,d1,d2,e=>by
    have hmem:∀ {l:List OpD} {i:Nat} {o:OpD},l[i]?=some o→R.defines o.kind=true→o.dst∈dsts l:=fun {l i o} h d=>List.mem_map.2 ⟨o,List.mem_filter.2 ⟨List.mem_of_getElem? h,d⟩,rfl⟩
    have hn':(dsts ops).Nodup∧(R.defines x.kind=true→x.dst ∉ dsts ops):=by
      cases hd:R.defines x.kind with
      | false =>
        have e:dsts (x::ops)=dsts ops:=by simp [dsts,hd]
        rw [e] at hn; exact ⟨hn,fun h=>by cases h⟩
      | true =>
        have e:dsts (x::ops)=x.dst::dsts ops:=by simp [dsts,hd]
        rw [e] at hn
        obtain ⟨n1,n2⟩:=List.nodup_cons.1 hn
        exact ⟨n2,fun _=>n1⟩
    cases i with
    | zero=>cases j with
      | zero=>rfl
      | succ j =>
        simp only [List.getElem?_cons_zero,Option.some.injEq,List.getElem?_cons_succ] at hi hj
        subst hi
        exact absurd (e ▸ hmem hj d2) (hn'.2 d1)
    | succ i=>cases j with
      | zero =>
        simp only [List.getElem?_cons_zero,Option.some.injEq,List.getElem?_cons_succ] at hi hj
        subst hj
        exact absurd (e ▸ hmem hi d1) (hn'.2 d2)
      | succ j =>
        simp only [List.getElem?_cons_succ] at hi hj
        rw [dst_uniq hn'.1 hi hj d1 d2 e]
theorem def_ahead {c:CodeD} {b:BlockD} (h:BlkOk c b) {v:Int} (hv:v∈R.values b) {k:Nat} (hk:k≤b.ops.length):PX.g (defK (cnD b) b.ops b.ops.length) v.toNat<(k:Int)↔v∈aheadD b k:=by
  have hp:=h.params
  obtain ⟨hd,hnd⟩:=dsts_ok h
  have hcv:=(cnt_val h).2.2.2 v hv
  have hlen:=defK_len (cnD b) b.ops b.ops.length
  have hc:v.toNat<(defK (cnD b) b.ops b.ops.length).length:=by rw [hlen]; unfold cnD; omega
  have hup:∀ x:Int,x∈R.upto b.params↔0≤x∧x<b.params:=fun x=>by
    unfold R.upto
    rw [List.mem_map]
    constructor
    · rintro ⟨i,hi,rfl⟩; have:=List.mem_range.1 hi; omega
    · rintro ⟨h1,h2⟩; exact ⟨x.toNat,List.mem_range.2 (by omega),by omega⟩
  have hdst:∀ {l:List OpD} {x:Int},x∈dsts l↔∃ (i:Nat) (o:OpD),l[i]?=some o∧R.defines o.kind=true∧x=o.dst:=fun {l x}=>by
    unfold dsts
    rw [List.mem_map]
    constructor
    · rintro ⟨o,ho,rfl⟩
      obtain ⟨q1,q2⟩:=List.mem_filter.1 ho
      obtain ⟨i,hi⟩:=List.getElem?_of_mem q1
      exact ⟨i,o,hi,q2,rfl⟩
    · rintro ⟨i,o,hi,q2,rfl⟩
      exact ⟨o,List.mem_filter.2 ⟨List.mem_of_getElem? hi,q2⟩,rfl⟩
  unfold aheadD
  rw [List.mem_append,hup]
  rcases defK_lst (cnD b) b b.ops.length (Nat.le_refl _) v.toNat hc with ⟨h1,h2⟩ | ⟨j,h1,⟨h2,o,h3,h4,h5⟩,h6⟩
  · have hg:PX.g (defK (cnD b) b.ops b.ops.length) v.toNat=-1:=by unfold PX.g; rw [h1]; rfl
    rw [hg]
    refine ⟨fun _=>?_,fun _=>by omega⟩
    rw [values_eq2,List.mem_append,hup] at hv
    rcases hv with hv | hv
    · exact .inl hv
    · obtain ⟨i,o,q1,q2,q3⟩:=hdst.1 hv
      exact absurd ⟨(List.getElem?_eq_some_iff.1 q1).1,o,q1,q2,by rw [q3]⟩ (h2 i)
  · have hg:PX.g (defK (cnD b) b.ops b.ops.length) v.toNat=(j:Int):=by unfold PX.g; rw [h1]; rfl
    rw [hg]
    have hod:=hd o.dst (hdst.2 ⟨j,o,h3,h4,rfl⟩)
    have hvo:v=o.dst:=by omega
    constructor
    · intro hjk
      exact .inr (hdst.2 ⟨j,o,by rw [List.getElem?_take,if_pos (by omega)]; exact h3,h4,hvo⟩)
    · rintro (q | q)
      · omega
      · obtain ⟨i,o',q1,q2,q3⟩:=hdst.1 q
        rw [List.getElem?_take] at q1
        split at q1
        · rename_i hik
          have:=dst_uniq hnd q1 h3 q2 h4 (by rw [← q3,hvo])
          omega
        · cases q1
theorem curD_sub (ops:List OpD):∀ x∈curD ops,x∈ops∧x.kind=21:=by
  have h:∀ (xs:List OpD) (l:List OpD) (S:List OpD),(∀ x∈l,x∈S∧x.kind=21)→(∀ x∈xs,x∈S)→∀ x∈xs.foldl curStep l,x∈S∧x.kind=21:=by
    intro xs; induction xs with
    | nil=>intro l S h1 _ x hx; exact h1 x hx
    | cons y ys ih =>
      intro l S h1 h2 x hx
      rw [List.foldl_cons] at hx
      refine ih _ S (fun z hz=>?_) (fun z hz=>h2 z (by simp [hz])) x hx
      unfold curStep at hz
      split at hz
      · rename_i h21
        unfold curIns at hz
        rcases List.mem_append.1 hz with hz | hz
        · rcases List.mem_append.1 hz with hz | hz
          · exact h1 z (List.mem_of_mem_take hz)
          · simp only [List.mem_singleton] at hz; subst hz; exact ⟨h2 z (by simp),h21⟩
        · split at hz <;> exact h1 z (List.mem_of_mem_drop hz)
      · exact h1 z hz
  exact h ops [] ops (fun x hx=>by cases hx) (fun x hx=>hx)
theorem marks_eq {c:CodeD} {b:BlockD} (h:BlkOk c b) (l0:List Int) {y:OpD} {k:Nat} (hk:k≤b.ops.length) (hsrc:∀ o∈b.ops,o.kind=21→o.sk=2→o.sv∈R.values b) (u:Int) :
    u∈marksD (defK (cnD b) b.ops b.ops.length) b l0 y k↔(y.kind=19∨y.kind=20)∧u∈((curD (b.ops.take k)).filter fun x=>x.sk==2&&(aheadD b k).contains x.sv).map (·.sv):=by
  unfold marksD
  split
  · rename_i hm
    simp only [hm,true_and]
    have hcm:=(cur_mark (defK (cnD b) b.ops b.ops.length) b.ops l0 k hk).2
    rw [List.mem_map,List.mem_map]
    constructor
    · rintro ⟨v,hv,rfl⟩
      obtain ⟨h1,h2⟩:=List.mem_filter.1 hv
      obtain ⟨p,hp,rfl⟩:=List.mem_map.1 h1
      obtain ⟨o,ho,rfl⟩:=(hcm p).1 hp
      obtain ⟨h2a,h2b⟩:=Bool.and_eq_true_iff.1 h2
      have h2a:o.sk=2:=of_decide_eq_true h2a
      have h2b:PX.g (defK (cnD b) b.ops b.ops.length) o.sv.toNat<(k:Int):=of_decide_eq_true h2b
      obtain ⟨q1,q2⟩:=curD_sub _ o ho
      have hval:=hsrc o (List.mem_of_mem_take q1) q2 h2a
      refine ⟨o,List.mem_filter.2 ⟨ho,?_⟩,rfl⟩
      simp only [h2a,Int.reduceBEq,Bool.true_and]
      rw [List.contains_iff_mem]
      exact (def_ahead h hval hk).1 h2b
    · rintro ⟨o,ho,rfl⟩
      obtain ⟨h1,h2⟩:=List.mem_filter.1 ho
      simp only [Bool.and_eq_true,beq_iff_eq] at h2
      rw [List.contains_iff_mem] at h2
      obtain ⟨q1,q2⟩:=curD_sub _ o h1
      have hval:=hsrc o (List.mem_of_mem_take q1) q2 h2.1
      refine ⟨srcD o,List.mem_filter.2 ⟨List.mem_map.2 ⟨(keyD o,srcD o),(hcm _).2 ⟨o,h1,rfl⟩,rfl⟩,?_⟩,rfl⟩
      exact Bool.and_eq_true_iff.2 ⟨decide_eq_true (show (srcD o).1=2 from h2.1),decide_eq_true ((def_ahead h hval hk).2 h2.2)⟩
  · rename_i hm
    simp [hm]
theorem ends_eq {c:CodeD} {b:BlockD} (h:BlkOk c b) (u:Int):u∈termU b.term↔u∈endsR b.term:=by
  have ht:=h.term
  have hn:∀ {blk:Int} {args:List Int},R.none_ blk args=true→args=[]∧¬ 0≤blk:=fun {blk args} q=>by
    unfold R.none_ at q
    simp only [Bool.and_eq_true,beq_iff_eq] at q
    exact ⟨List.length_eq_zero_iff.1 q.2,by omega⟩
  have he:∀ {blk:Int} {args all:List Int} {more:Int},R.edge c blk args all more=true→0≤blk:=fun {blk args all more} q=>by have:=(edge_ok q).1; omega
  have hnoargs:¬ (b.term.kind=3∨b.term.kind=6)→b.term.args=[]:=fun hno=>by
    unfold R.term at ht
    simp only at ht
    split at ht
    · cases ht
    · rename_i q1
      simp only [Bool.or_eq_true,not_or,Bool.and_eq_true,not_and,decide_eq_true_eq,Bool.not_eq_true',Bool.or_eq_false_iff,beq_eq_false_iff_ne,ne_eq,beq_iff_eq] at q1
      have:=q1.1.2 ⟨fun e=>hno (.inl e),fun e=>hno (.inr e)⟩
      exact List.length_eq_zero_iff.1 (by omega)
  have hedge:(b.term.args0=[]∨0≤b.term.b0)∧(b.term.args1=[]∨0≤b.term.b1):=by
    unfold R.term at ht
    simp only at ht
    split at ht
    · cases ht
    split at ht
    · cases ht
    split at ht
    · simp only [Bool.and_eq_true] at ht; exact ⟨.inr (he ht.1),.inl (hn ht.2).1⟩
    split at ht
    · simp only [Bool.and_eq_true] at ht; exact ⟨.inr (he ht.1),.inr (he ht.2)⟩
    split at ht
    · simp only [Bool.and_eq_true,Bool.or_eq_true] at ht
      refine ⟨.inr (he ht.1),?_⟩
      rcases ht.2 with q | q
      · exact .inl (hn q).1
      · exact .inr (he q)
    split at ht
    · simp only [Bool.and_eq_true] at ht; exact ⟨.inl (hn ht.1).1,.inl (hn ht.2).1⟩
    · cases ht
  have e0:(if 0≤b.term.b0 then b.term.args0 else [])=b.term.args0:=by
    split
    · rfl
    · rcases hedge.1 with q | q
      · exact q.symm
      · rename_i q'; exact absurd q q'
  have e1:(if 0≤b.term.b1 then b.term.args1 else [])=b.term.args1:=by
    split
    · rfl
    · rcases hedge.2 with q | q
      · exact q.symm
      · rename_i q'; exact absurd q q'
  unfold termU endsR
  rw [e0,e1]
  by_cases k1:b.term.kind=2∨b.term.kind=4∨b.term.kind=5
  · rw [if_pos k1,if_pos k1,hnoargs (by omega)]
    simp [or_assoc]
  · rw [if_neg k1,if_neg k1]
    by_cases k2:b.term.kind=3∨b.term.kind=6
    · rw [if_pos k2]; simp [or_assoc]
    · rw [if_neg k2,hnoargs k2]; simp
theorem usesR_mem {b:BlockD} {k:Nat} {keep:Bool} {y:OpD} (u:Int):u∈usesR b k keep y↔u∈usesAB y k∨(keep=true∧(y.kind=19∨y.kind=20)∧u∈((curD (b.ops.take k)).filter fun x=>x.sk==2&&(aheadD b k).contains x.sv).map (·.sv)):=by
  unfold usesR usesAB
  rw [List.mem_append]
  refine or_congr Iff.rfl ?_
  by_cases hk:(keep&&(y.kind==19||y.kind==20))=true
  · rw [if_pos hk]
    simp only [Bool.and_eq_true,Bool.or_eq_true,beq_iff_eq] at hk
    simp only [hk,true_and]
  · rw [if_neg hk]
    simp only [Bool.and_eq_true,Bool.or_eq_true,beq_iff_eq] at hk
    constructor
    · intro h; cases h
    · rintro ⟨h1,h2,_⟩; exact absurd ⟨h1,h2⟩ hk
theorem last_eq {c:CodeD} {b:BlockD} (h:BlkOk c b) (hsrc:∀ o∈b.ops,o.kind=21→o.sk=2→o.sv∈R.values b) (keep:Bool):lastD keep (cnD b) b=lastR keep b:=by
  have hlen:(lastD keep (cnD b) b).length=(lastR keep b).length:=by rw [lastD_len,lastR_len,top_cnt h]; rfl
  refine Lst.eq ?_ (lastR_lst keep b) hlen
  have hend:=endK_lst (cnD b) b
  have hu:∀ v k,EvU b (fun o k=>usesR b k keep o) b.ops.length v k↔EvU b usesAB b.ops.length v k∨(keep=true∧EvU b (marksD (defK (cnD b) b.ops b.ops.length) b (endK (cnD b) b (termU b.term).length)) b.ops.length v k):=fun v k=>by
    unfold EvU
    constructor
    · rintro ⟨hk,o,ho,u,hu,rfl⟩
      rcases (usesR_mem u).1 hu with q | ⟨q1,q2⟩
      · exact .inl ⟨hk,o,ho,u,q,rfl⟩
      · exact .inr ⟨q1,hk,o,ho,u,(marks_eq h _ (by omega) hsrc u).2 q2,rfl⟩
    · rintro (⟨hk,o,ho,u,hu,rfl⟩ | ⟨q1,hk,o,ho,u,hu,rfl⟩)
      · exact ⟨hk,o,ho,u,(usesR_mem u).2 (.inl hu),rfl⟩
      · exact ⟨hk,o,ho,u,(usesR_mem u).2 (.inr ⟨q1,(marks_eq h _ (by omega) hsrc u).1 hu⟩),rfl⟩
  have he:∀ v:Nat,(∃ u∈termU b.term,v=u.toNat)↔∃ u∈endsR b.term,v=u.toNat:=fun v =>
    ⟨fun ⟨u,q1,q2⟩=>⟨u,(ends_eq h u).1 q1,q2⟩,fun ⟨u,q1,q2⟩=>⟨u,(ends_eq h u).2 q1,q2⟩⟩
  unfold lastD
  split
  · rename_i hk
    refine (markK_lst _ b _ hend b.ops.length (Nat.le_refl _)).congr fun v k=>?_
    rw [hu,he]
    constructor
    · rintro (((q | q) | q) | q)
      · exact .inl (.inl q)
      · exact .inl (.inr (.inl q))
      · exact .inr q
      · exact .inl (.inr (.inr ⟨hk,q⟩))
    · rintro ((q | (q | ⟨_,q⟩)) | q)
      · exact .inl (.inl (.inl q))
      · exact .inl (.inl (.inr q))
      · exact .inr q
      · exact .inl (.inr q)
  · rename_i hk
    refine hend.congr fun v k=>?_
    rw [hu,he]
    constructor
    · rintro ((q | q) | q)
      · exact .inl (.inl q)
      · exact .inl (.inr (.inl q))
      · exact .inr q
    · rintro ((q | (q | ⟨q,_⟩)) | q)
      · exact .inl (.inl q)
      · exact .inl (.inr q)
      · exact absurd q hk
      · exact .inr q
end Go.Proofs.Ytlkcidmmpeebeaa
