/- Proved: the unrolled code on plain data,and what a check that is passed says of its blocks. No program in sight. -/
import Derived.Test.YtlkcidmmpeebeaaPUnC
set_option linter.unusedVariables false
set_option linter.unusedSimpArgs false
namespace Go.Proofs.Ytlkcidmmpeebeaa
open Go.RowKit Go.PX

/-! what the check says -/
structure BlkOk (c:CodeD) (b:BlockD):Prop where
  params:0≤b.params∧b.params≤999
  ops:R.ops c b=true
  term:R.term c b=true
theorem blk_ok {c:CodeD} {t:Int} (h:R.check c t=0) {b:BlockD} {k:Nat} (hb:c.blocks[k]?=some b):BlkOk c b:=by
  unfold R.check at h
  split at h
  · simp at h
  split at h
  · simp at h
  split at h
  · rename_i h1 h2 h3
    have:=List.all_eq_true.1 h3 b (List.mem_of_getElem? hb)
    simp only [Bool.and_eq_true,Bool.not_eq_true',Bool.or_eq_false_iff,decide_eq_false_iff_not] at this
    exact ⟨by omega,this.1.2,this.2⟩
  · simp at h
theorem edge_ok {c:CodeD} {blk:Int} {args all:List Int} {more:Int} (h:R.edge c blk args all more=true):1≤blk∧blk<(c.blocks.length:Int)∧(args.length:Int)+more=R.paramsAt c blk∧∀ v∈args,R.has all v=true:=by
  unfold R.edge at h
  split at h
  · cases h
  · rename_i q
    simp only [Bool.or_eq_true,decide_eq_true_eq,not_or,bne_iff_ne,ne_eq,Classical.not_not] at q
    exact ⟨by omega,by omega,q.2,fun v hv=>List.all_eq_true.1 h v hv⟩
structure TermOk (c:CodeD) (b:BlockD):Prop where
  a:(b.term.kind==2||b.term.kind==4||b.term.kind==5)=true→R.has (R.values b) b.term.a=true
  args:∀ v∈b.term.args,R.has (R.values b) v=true
  jump:b.term.kind=1→R.edge c b.term.b0 b.term.args0 (R.values b) 0=true
  br:b.term.kind=2→R.edge c b.term.b0 b.term.args0 (R.values b) 0=true∧R.edge c b.term.b1 b.term.args1 (R.values b) 0=true
theorem term_ok {c:CodeD} {b:BlockD} (h:R.term c b=true):TermOk c b:=by
  unfold R.term at h
  simp only at h
  split at h
  · cases h
  rename_i q1
  split at h
  · cases h
  rename_i q2
  simp only [Bool.not_eq_true',Bool.not_eq_false] at q2
  refine ⟨fun ha=>?_,fun v hv=>List.all_eq_true.1 q2 v hv,fun h1=>?_,fun h2=>?_⟩
  · simp only [Bool.or_eq_true,not_or,Bool.and_eq_true,not_and] at q1
    have:=q1.1.1.1 (by simpa using ha)
    simpa using this
  · rw [h1] at h
    simp only [Int.reduceBEq,if_true,Bool.and_eq_true] at h
    exact h.1
  · rw [h2] at h
    simp only [Int.reduceBEq,Bool.false_eq_true,if_false,if_true,Bool.and_eq_true] at h
    exact h
theorem opsFrom_dsts {c:CodeD} {p:Int} {all:List Int}:∀ {ops:List OpD} {known:List Int},R.opsFrom c p all known ops=true→(∀ v∈dsts ops,p≤v∧v≤9999∧v ∉ known)∧(dsts ops).Nodup
  | [],known,_=>⟨fun v hv=>by simp [dsts] at hv,by simp [dsts]⟩
  | o::os,known,h=>by
    simp only [R.opsFrom,Bool.and_eq_true] at h
    obtain ⟨⟨⟨_,h2⟩,_⟩,h4⟩:=h
    obtain ⟨i1,i2⟩:=opsFrom_dsts h4
    cases hd:R.defines o.kind with
    | false =>
      have e:dsts (o::os)=dsts os:=by simp [dsts,hd]
      rw [hd] at i1
      rw [e]
      exact ⟨fun v hv=>by simpa using i1 v hv,i2⟩
    | true =>
      have e:dsts (o::os)=o.dst::dsts os:=by simp [dsts,hd]
      rw [hd] at h2 i1
      simp only [Bool.not_true,Bool.false_or,Bool.not_eq_true',Bool.or_eq_false_iff,decide_eq_false_iff_not] at h2
      have hk:o.dst ∉ known:=fun q=>by have:=(has_iff known o.dst).2 q; rw [h2.2] at this; cases this
      rw [e]
      refine ⟨fun v hv=>?_,List.nodup_cons.2 ⟨fun q=>?_,i2⟩⟩
      · rcases List.mem_cons.1 hv with rfl | hv
        · exact ⟨by omega,by omega,hk⟩
        · obtain ⟨j1,j2,j3⟩:=i1 v hv
          exact ⟨j1,j2,fun q=>j3 (by simp [q])⟩
      · exact (i1 _ q).2.2 (by simp)
theorem dsts_ok {c:CodeD} {b:BlockD} (h:BlkOk c b):(∀ v∈dsts b.ops,b.params≤v∧v≤9999)∧(dsts b.ops).Nodup:=by
  obtain ⟨h1,h2⟩:=opsFrom_dsts h.ops
  exact ⟨fun v hv=>⟨(h1 v hv).1,(h1 v hv).2.1⟩,h2⟩
theorem mx_bd:∀ (l:List Int) (n:Int),-1≤n→n≤9999→(∀ v∈l,v≤9999)→-1≤l.foldl mx n∧l.foldl mx n≤9999
  | [],n,h1,h2,_=>⟨h1,h2⟩
  | x::l,n,h1,h2,h=>by
    have hx:=h x (by simp)
    refine mx_bd l (mx n x) ?_ ?_ (fun v hv=>h v (by simp [hv])) <;> unfold mx <;> split <;> omega
theorem top_bd {c:CodeD} {b:BlockD} (h:BlkOk c b):-1≤topD b∧topD b≤9999:=by
  have hp:=h.params
  refine mx_bd _ _ (by omega) (by omega) fun v hv=>?_
  rw [values_eq2,List.mem_append] at hv
  rcases hv with hv | hv
  · unfold R.upto at hv
    obtain ⟨i,hi,rfl⟩:=List.mem_map.1 hv
    have:=List.mem_range.1 hi
    omega
  · exact ((dsts_ok h).1 v hv).2
theorem jump_blk {c:CodeD} {t:Int} (h:R.check c t=0) {y:BlockD} {k:Nat} (hy:c.blocks[k]?=some y):∃ (x:BlockD) (j:Nat),c.blocks[j]?=some x∧(y.term.kind=1→(j:Int)=y.term.b0):=by
  by_cases h1:y.term.kind=1
  · obtain ⟨q1,q2,_⟩:=edge_ok ((term_ok (blk_ok h hy).term).jump h1)
    obtain ⟨x,hx⟩:=get_of_lt (l:=c.blocks) (k:=y.term.b0.toNat) (by omega)
    exact ⟨x,_,hx,fun _=>by omega⟩
  · exact ⟨y,k,hy,fun q=>absurd q h1⟩

/-! loops turned -/
def skipT (c:CodeD) (y x:BlockD) (i:Nat):Bool:=((((y.term.kind != 1)||(y.term.b0==((i:Nat):Int)))||decide ((edgesK c y.term.b0 c.blocks.length)<2))||decide (24<((x.ops.length:Nat):Int)))||(x.term.kind != 2)
def fitsT (cur:List BlockD) (x:BlockD):Bool:=decide ((IntKind.i64.wrap (totW cur+((x.ops.length:Nat):Int)))≤6000)
def turn1 (c:CodeD) (cur:List BlockD) (i:Nat):List BlockD :=
  match c.blocks[i]? with
  | none=>cur
  | some y=>match c.blocks[y.term.b0.toNat]? with
    | none=>cur
    | some x=>if (!skipT c y x i&&(joinOk y x&&fitsT cur x))=true then cur.set i (joinD y x) else cur
def turnL (c:CodeD):Nat→List BlockD
  | 0=>c.blocks
  | k+1=>turn1 c (turnL c k) (k+1)
theorem turn1_len (c:CodeD) (cur:List BlockD) (i:Nat):(turn1 c cur i).length=cur.length:=by
  unfold turn1
  split
  · rfl
  · split
    · rfl
    · split <;> simp
theorem turnL_len (c:CodeD):∀ k,(turnL c k).length=c.blocks.length
  | 0=>rfl
  | k+1=>by rw [turnL,turn1_len,turnL_len c k]
theorem turn1_get {c:CodeD} {cur:List BlockD} {i j:Nat} (h:i≠j):(turn1 c cur i)[j]?=cur[j]?:=by
  unfold turn1
  split
  · rfl
  · split
    · rfl
    · split
      · rw [List.getElem?_set_ne h]
      · rfl
theorem turnL_get {c:CodeD} {j:Nat}:∀ {k:Nat},k<j→(turnL c k)[j]?=c.blocks[j]?
  | 0,_=>rfl
  | k+1,h=>by rw [turnL,turn1_get (by omega),turnL_get (by omega)]
section
variable {c:CodeD} {y x:BlockD} {k j:Nat}
theorem skipT_kind (h:skipT c y x k=false):y.term.kind=1:=by
  unfold skipT at h
  simp only [Bool.or_eq_false_iff,bne_eq_false_iff_eq] at h
  exact h.1.1.1.1
theorem turnL_skip (hy:c.blocks[k+1]?=some y) (hx:c.blocks[j]?=some x) (hj:y.term.kind=1→(j:Int)=y.term.b0) (h:skipT c y x (k+1)=true):turnL c (k+1)=turnL c k:=by
  rw [turnL]; unfold turn1
  rw [hy]
  by_cases h1:y.term.kind=1
  · have e:y.term.b0.toNat=j:=by have:=hj h1; omega
    simp only [e,hx,h,Bool.not_true,Bool.false_and,Bool.false_eq_true,if_false]
  · simp only
    split
    · rfl
    · rename_i x' _
      have:skipT c y x' (k+1)=true:=by unfold skipT; simp [h1]
      rw [this]; rfl
theorem turnL_no (hy:c.blocks[k+1]?=some y) (hx:c.blocks[j]?=some x) (hj:y.term.kind=1→(j:Int)=y.term.b0) (h:skipT c y x (k+1)=false) (h2:(joinOk y x&&fitsT (turnL c k) x)=false):turnL c (k+1)=turnL c k:=by
  have e:y.term.b0.toNat=j:=by have:=hj (skipT_kind h); omega
  rw [turnL]; unfold turn1
  rw [hy]
  simp only [e,hx,h,h2,Bool.and_false,Bool.false_eq_true,if_false]
theorem turnL_yes (hy:c.blocks[k+1]?=some y) (hx:c.blocks[j]?=some x) (hj:y.term.kind=1→(j:Int)=y.term.b0) (h:skipT c y x (k+1)=false) (h2:(joinOk y x&&fitsT (turnL c k) x)=true):turnL c (k+1)=(turnL c k).set (k+1) (joinD y x):=by
  have e:y.term.b0.toNat=j:=by have:=hj (skipT_kind h); omega
  rw [turnL]; unfold turn1
  rw [hy]
  simp only [e,hx,h,h2,Bool.and_true,Bool.not_false,if_true]
end

/-! loops copied -/
def skipC (y:BlockD) (i:Nat):Bool:=(y.term.kind != 2)||((y.term.b0 != ((i:Nat):Int))&&(y.term.b1 != ((i:Nat):Int)))
def fullC (cur:List BlockD) (y:BlockD):Bool:=decide (400≤((cur.length:Nat):Int))||decide (6000<(IntKind.i64.wrap (totW cur+((y.ops.length:Nat):Int))))
def toC (b:Int) (i n:Nat):Int:=if (b==((i:Nat):Int))=true then ((n:Nat):Int) else b
def copyB (y:BlockD) (i n:Nat):BlockD:={ y with term:={ y.term with b0:=toC y.term.b0 i n,b1:=toC y.term.b1 i n } }
def copy1 (T cur:List BlockD) (i:Nat):List BlockD :=
  match T[i]? with
  | none=>cur
  | some y=>if (!skipC y i&&!fullC cur y)=true then cur.set i (copyB y i cur.length)++[y] else cur
def copyL (T:List BlockD):Nat→List BlockD
  | 0=>T
  | k+1=>copy1 T (copyL T k) k
theorem copy1_len (T cur:List BlockD) (i:Nat):cur.length≤(copy1 T cur i).length∧(copy1 T cur i).length≤max cur.length 400:=by
  unfold copy1
  split
  · omega
  · rename_i y _
    split
    · rename_i h
      simp only [Bool.and_eq_true,Bool.not_eq_true',fullC,Bool.or_eq_false_iff,decide_eq_false_iff_not] at h
      simp; omega
    · omega
theorem copyL_len (T:List BlockD):∀ k,T.length≤(copyL T k).length∧(copyL T k).length≤max T.length 400
  | 0=>by simp only [copyL]; omega
  | k+1=>by
    have h1:=copyL_len T k
    have h2:=copy1_len T (copyL T k) k
    rw [copyL]; omega
theorem copyL_get {T:List BlockD} {j:Nat} (hj:j<T.length):∀ {k:Nat},k≤j→(copyL T k)[j]?=T[j]?
  | 0,_=>rfl
  | k+1,h=>by
    have ih:=copyL_get hj (k:=k) (by omega)
    have hl:=(copyL_len T k).1
    rw [copyL]; unfold copy1
    split
    · exact ih
    · split
      · rw [List.getElem?_append_left (by simp; omega),List.getElem?_set_ne (by omega)]; exact ih
      · exact ih
section
variable {T:List BlockD} {y:BlockD} {k:Nat}
theorem copyL_skip (hy:T[k]?=some y) (h:skipC y k=true):copyL T (k+1)=copyL T k:=by
  rw [copyL]; unfold copy1; rw [hy]; simp [h]
theorem copyL_full (hy:T[k]?=some y) (h:fullC (copyL T k) y=true):copyL T (k+1)=copyL T k:=by
  rw [copyL]; unfold copy1; rw [hy]; simp [h]
theorem copyL_yes (hy:T[k]?=some y) (h:skipC y k=false) (h2:fullC (copyL T k) y=false):copyL T (k+1)=(copyL T k).set k (copyB y k (copyL T k).length)++[y]:=by
  rw [copyL]; unfold copy1; rw [hy]; simp [h,h2]
end
def turnD (c:CodeD):CodeD:={ c with blocks:=turnL c (c.blocks.length-1) }
def unrD (c:CodeD):CodeD:={ c with blocks:=copyL (turnL c (c.blocks.length-1)) c.blocks.length }
end Go.Proofs.Ytlkcidmmpeebeaa
