/- Proved: what merge.join does to a list of blocks,step by step,as plain data. No program in sight. -/
import Derived.Test.YtlkcidmmpeebeaaMgQ
import Derived.Test.YtlkcidmmpeebeaaPMgF
import Derived.Test.YtlkcidmmpeebeaaEdgO
set_option linter.unusedVariables false
set_option linter.unusedSimpArgs false
namespace Go.Proofs.Ytlkcidmmpeebeaa
open Go.RowKit Go.PX
def mkV (d:BlockD) (o a a0 a1:Value):VB:={ params:=d.params,ops:=o,kind:=d.term.kind,a:=d.term.a,n:=d.term.n,args:=a,b0:=d.term.b0,a0:=a0,b1:=d.term.b1,a1:=a1 }
/-! the names -/
theorem updI_new:∀ (D:List (Int × Int)) (n v:Int),(∀ p∈D,n≠p.1)→updI D n v=D++[(n,v)]
  | [],n,v,_=>rfl
  | p::D,n,v,h=>by
    have h1:=h p (by simp)
    have:(n==p.1)=false:=by simpa using h1
    simp only [updI,this,cond_false,List.cons_append,updI_new D n v fun q hq=>h q (by simp [hq])]
theorem args_upd {l:List Int} {k:Nat} {y:Int} (hy:l[k]?=some y):PX.updV (iv (argsN (l.take k))) ((k:Nat):Int) (.int .i64 y)=iv (argsN (l.take (k+1))):=by
  have hk:=(List.getElem?_eq_some_iff.1 hy).1
  rw [upd_iv,argsN_take hy,updI_new]
  intro p hp
  unfold argsN at hp
  obtain ⟨⟨v,i⟩,hq,rfl⟩:=List.mem_map.1 hp
  have:=List.mem_zipIdx' hq
  simp at this ⊢
  omega
theorem nm_upd {y x:BlockD} (hx:MBlk x) (hp:x.params=(y.term.args0.length:Int)) {m:Nat} {o:OpD} (ho:x.ops[m]?=some o) (hd:R.defines o.kind=true):PX.updV (iv (nmK y x m)) o.dst (.int .i64 (numK y x m))=iv (nmK y x (m+1)):=by
  rw [upd_iv,(nmK_yes (b:=y) ho hd).1,updI_new]
  intro p hpm
  have htk:=dsts_take ho
  rw [if_pos hd] at htk
  have hall:dsts x.ops=dsts (x.ops.take (m+1))++dsts (x.ops.drop (m+1)):=by
    have q:=dsts_app (x.ops.take (m+1)) (x.ops.drop (m+1))
    rwa [List.take_append_drop] at q
  have hmem:o.dst∈dsts x.ops:=by rw [hall,htk]; simp
  have hge:=(hx.dst.1 _ hmem).1
  unfold nmK at hpm
  rcases List.mem_append.1 hpm with q | q
  · have:=keys_args q
    omega
  · obtain ⟨⟨v,i⟩,hq,rfl⟩:=List.mem_map.1 q
    have hv:=(List.mem_zipIdx' hq)
    have hvm:v∈dsts (x.ops.take m):=hv.2 ▸ List.getElem_mem _
    have hnd:=hx.dst.2
    rw [hall,htk,List.append_assoc,List.nodup_append] at hnd
    exact fun e=>hnd.2.2 v hvm o.dst (by simp) e.symm
/-! an operation's values -/
def renAt (D:List (Int × Int)) (o:OpD) (p:Nat):OpD :=
  match p with
  | 1=>{ o with dst:=valD D o.dst }
  | 2=>{ o with a:=valD D o.a }
  | 3=>{ o with b:=valD D o.b }
  | 9=>{ o with sv:=valD D o.sv }
  | _=>o
def renL (D:List (Int × Int)) (o:OpD) (l:List Nat):OpD:=l.foldl (renAt D) o
theorem renAt_kind (D:List (Int × Int)) (o:OpD) (p:Nat):(renAt D o p).kind=o.kind∧(renAt D o p).sk=o.sk:=by unfold renAt; split <;> exact ⟨rfl,rfl⟩
theorem renL_kind (D:List (Int × Int)):∀ (l:List Nat) (o:OpD),(renL D o l).kind=o.kind∧(renL D o l).sk=o.sk
  | [],o=>⟨rfl,rfl⟩
  | p::l,o=>by
    obtain ⟨h1,h2⟩:=renL_kind D l (renAt D o p)
    obtain ⟨h3,h4⟩:=renAt_kind D o p
    exact ⟨h1.trans h3,h2.trans h4⟩
theorem renL_snoc (D:List (Int × Int)) (o:OpD) (l:List Nat) (p:Nat):renL D o (l++[p])=renAt D (renL D o l) p:=by unfold renL; rw [List.foldl_append]; rfl
theorem renL_all (D:List (Int × Int)) (o:OpD):renL D o (vOff o.kind o.sk)=renMO D o:=by
  unfold renL vOff renMO
  cases R.defines o.kind <;> cases R.usesA o.kind <;> cases R.usesB o.kind <;> cases (o.kind==21&&o.sk==2) <;> rfl
theorem vOff_mem {k sk:Int} {p:Nat} (h:p∈vOff k sk):p=1∨p=2∨p=3∨p=9:=by
  unfold vOff at h
  simp only [List.mem_append] at h
  rcases h with ((h | h) | h) | h <;> (split at h <;> simp at h) <;> simp [h]
/-! a terminator's values -/
def setI (D:List (Int × Int)) (l:List Int) (i:Nat):List Int:=match l[i]? with | some y=>l.set i (valD D y) | none=>l
theorem setI_len (D:List (Int × Int)) (l:List Int) (i:Nat):(setI D l i).length=l.length:=by unfold setI; split <;> simp
theorem setI_at {D:List (Int × Int)} {l:List Int} {i:Nat} {y:Int} (h:l[i]?=some y):(l.map encI).set i [.sc (.int .i64 (valD D y))]=(setI D l i).map encI:=by
  unfold setI; rw [h]; simp only [List.map_set]; rfl
theorem setI_all (D:List (Int × Int)) (l:List Int):∀ n,n≤l.length→(List.range n).foldl (setI D) l=(l.take n).map (valD D)++l.drop n
  | 0,_=>by simp
  | n+1,h=>by
    rw [List.range_succ,List.foldl_append,setI_all D l n (by omega)]
    have hl:((l.take n).map (valD D)).length=n:=by simp; omega
    have hn:l[n]?=some l[n]:=List.getElem?_eq_getElem (by omega)
    have e:((l.take n).map (valD D)++l.drop n)[n]?=some l[n]:=by
      rw [List.getElem?_append_right (by omega),hl,Nat.sub_self,List.getElem?_drop,Nat.add_zero,hn]
    show setI D _ n=_
    unfold setI
    rw [e]
    simp only
    rw [List.set_append_right _ _ (by omega),hl,Nat.sub_self,List.drop_eq_getElem_cons (by omega),List.set_cons_zero,List.take_add_one,hn]
    simp only [List.map_append,Option.toList_some,List.map_cons,List.map_nil,List.append_assoc,List.cons_append,List.nil_append]
def setU (D:List (Int × Int)) (s:Int × List Int × List Int × List Int) (p:Nat × Nat):Int × List Int × List Int × List Int :=
  match p.1 with
  | 0=>(valD D s.1,s.2)
  | 1=>(s.1,setI D s.2.1 p.2,s.2.2)
  | 2=>(s.1,s.2.1,setI D s.2.2.1 p.2,s.2.2.2)
  | _=>(s.1,s.2.1,s.2.2.1,setI D s.2.2.2 p.2)
def useL (D:List (Int × Int)) (t:TermD) (l:List (Nat × Nat)):Int × List Int × List Int × List Int:=l.foldl (setU D) (t.a,t.args,t.args0,t.args1)
theorem useL_snoc (D:List (Int × Int)) (t:TermD) (l:List (Nat × Nat)) (p:Nat × Nat):useL D t (l++[p])=setU D (useL D t l) p:=by unfold useL; rw [List.foldl_append]; rfl
theorem useL_len (D:List (Int × Int)) (t:TermD) (l:List (Nat × Nat)):(useL D t l).2.1.length=t.args.length∧(useL D t l).2.2.1.length=t.args0.length∧(useL D t l).2.2.2.length=t.args1.length:=by
  unfold useL
  suffices h:∀ (l:List (Nat × Nat)) (s:Int × List Int × List Int × List Int),(l.foldl (setU D) s).2.1.length=s.2.1.length∧(l.foldl (setU D) s).2.2.1.length=s.2.2.1.length∧(l.foldl (setU D) s).2.2.2.length=s.2.2.2.length from h l _
  intro l
  induction l with
  | nil=>exact fun s=>⟨rfl,rfl,rfl⟩
  | cons p l ih =>
    intro s
    obtain ⟨h1,h2,h3⟩:=ih (setU D s p)
    rw [List.foldl_cons,h1,h2,h3]
    unfold setU
    split <;> simp [setI_len]
theorem useL_all (D:List (Int × Int)) (t:TermD):useL D t (useP t.kind (n3 t.args.length t.args0.length t.args1.length))=((renMT D t).a,t.args.map (valD D),t.args0.map (valD D),t.args1.map (valD D)):=by
  have f1:∀ (l:List Nat) (s:Int × List Int × List Int × List Int),(l.map fun i=>((1:Nat),i)).foldl (setU D) s=(s.1,l.foldl (setI D) s.2.1,s.2.2):=fun l=>by
    induction l with
    | nil=>exact fun s=>rfl
    | cons i l ih=>intro s; rw [List.map_cons,List.foldl_cons,ih]; rfl
  have f2:∀ (l:List Nat) (s:Int × List Int × List Int × List Int),(l.map fun i=>((2:Nat),i)).foldl (setU D) s=(s.1,s.2.1,l.foldl (setI D) s.2.2.1,s.2.2.2):=fun l=>by
    induction l with
    | nil=>exact fun s=>rfl
    | cons i l ih=>intro s; rw [List.map_cons,List.foldl_cons,ih]; rfl
  have f3:∀ (l:List Nat) (s:Int × List Int × List Int × List Int),(l.map fun i=>((3:Nat),i)).foldl (setU D) s=(s.1,s.2.1,s.2.2.1,l.foldl (setI D) s.2.2.2):=fun l=>by
    induction l with
    | nil=>exact fun s=>rfl
    | cons i l ih=>intro s; rw [List.map_cons,List.foldl_cons,ih]; rfl
  have f0:∀ (l:List Int),(List.range l.length).foldl (setI D) l=l.map (valD D):=fun l=>by rw [setI_all D l _ (Nat.le_refl _)]; simp
  have e:useP t.kind (n3 t.args.length t.args0.length t.args1.length)=(if hasA t.kind=true then [(0,0)] else [])++((List.range t.args.length).map (fun i=>((1:Nat),i))++((List.range t.args0.length).map (fun i=>((2:Nat),i))++(List.range t.args1.length).map (fun i=>((3:Nat),i)))):=by
    unfold useP useQ
    rw [show List.range 3=[0,1,2] from rfl]
    simp only [List.flatMap_cons,List.flatMap_nil,List.append_nil,List.range_zero,List.map_nil]
    rfl
  rw [e]
  unfold useL
  rw [List.foldl_append,List.foldl_append,List.foldl_append,f1,f2,f3]
  have ha:List.foldl (setU D) (t.a,t.args,t.args0,t.args1) (if hasA t.kind=true then [(0,0)] else [])=((renMT D t).a,t.args,t.args0,t.args1):=by
    unfold renMT hasA
    cases ((t.kind==2)||(t.kind==4))||(t.kind==5) <;> rfl
  rw [ha]
  simp only [f0]
/-! edges -/
def decV (t:Int) (y:VB):VB:={ y with b0:=decE t y.b0,b1:=decE t y.b1 }
def decAt (t:Int) (zs:List VB) (p:Nat):List VB:=match zs[p / 2]? with | some y=>zs.set (p / 2) (if p % 2=0 then { y with b0:=decE t y.b0 } else { y with b1:=decE t y.b1 }) | none=>zs
def decL (t:Int) (zs:List VB) (l:List Nat):List VB:=l.foldl (decAt t) zs
theorem decL_snoc (t:Int) (zs:List VB) (l:List Nat) (p:Nat):decL t zs (l++[p])=decAt t (decL t zs l) p:=by unfold decL; rw [List.foldl_append]; rfl
/-- how two lists of blocks agree: the signs of their edges -/
structure SG (zs zs':List VB):Prop where
  len:zs'.length=zs.length
  sg:∀ p,0≤edV zs' p↔0≤edV zs p
  bd:∀ (k:Nat) (y:VB),zs'[k]?=some y→y.b0<100000∧y.b1<100000
theorem decE_sg {t x:Int} (ht:0≤t) (hx:x<100000):(0≤decE t x↔0≤x)∧decE t x<100000:=by
  unfold decE
  split
  · rename_i h
    have h:=of_decide_eq_true h
    rw [IntWalk.i64_in _ (by omega)]; omega
  · exact ⟨Iff.rfl,hx⟩
theorem SG.step {t:Int} {zs zs':List VB} (ht:0≤t) (h:SG zs zs') (p:Nat):SG zs (decAt t zs' p):=by
  unfold decAt
  split
  · rename_i y hy
    obtain ⟨hb0,hb1⟩:=h.bd _ y hy
    have hl:=(List.getElem?_eq_some_iff.1 hy).1
    refine ⟨by rw [List.length_set]; exact h.len,fun q=>?_,fun k z hz=>?_⟩
    · rw [← h.sg q]
      unfold edV
      rw [List.getElem?_set]
      by_cases e:p / 2=q / 2
      · rw [if_pos e,if_pos hl,← e,hy]
        simp only
        have s0:=(decE_sg ht hb0).1
        have s1:=(decE_sg ht hb1).1
        by_cases hp:p % 2=0 <;> by_cases hq:q % 2=0 <;> simp only [hp,hq,if_true,if_false] <;> first | exact s0 | exact s1 | exact Iff.rfl
      · rw [if_neg e]
    · rw [List.getElem?_set] at hz
      by_cases e:p / 2=k
      · rw [if_pos e,if_pos (by omega),Option.some.injEq] at hz
        have s0:=(decE_sg ht hb0).2
        have s1:=(decE_sg ht hb1).2
        rw [← hz]
        by_cases hp:p % 2=0
        · rw [if_pos hp]; exact ⟨s0,hb1⟩
        · rw [if_neg hp]; exact ⟨hb0,s1⟩
      · rw [if_neg e] at hz; exact h.bd k z hz
  · exact h
theorem SG.list {t:Int} {zs:List VB} (ht:0≤t) (hb:∀ (k:Nat) (y:VB),zs[k]?=some y→y.b0<100000∧y.b1<100000) (l:List Nat):SG zs (decL t zs l):=by
  suffices h:∀ (l:List Nat) (zs':List VB),SG zs zs'→SG zs (decL t zs' l) from h l zs ⟨rfl,fun _=>Iff.rfl,hb⟩
  intro l
  induction l with
  | nil=>exact fun _ h=>h
  | cons p l ih=>exact fun zs' h=>ih _ (h.step ht p)
def stD (t:Int) (zs:List VB) (m:Nat):List VB:=zs.mapIdx fun j y=>{ y with b0:=if 2*j<m then decE t y.b0 else y.b0,b1:=if 2*j+1<m then decE t y.b1 else y.b1 }
theorem decE_neg {t x:Int} (ht:0≤t) (hx:¬ 0≤x):decE t x=x:=by
  unfold decE; rw [if_neg]; simp only [decide_eq_true_eq]; omega
theorem decL_st (t:Int) (ht:0≤t) (zs:List VB):∀ m,m≤2*zs.length→decL t zs (edgP (edV zs) m)=stD t zs m
  | 0,_=>by
    show zs=_
    unfold stD
    refine List.ext_getElem? fun j=>?_
    rw [List.getElem?_mapIdx]
    cases zs[j]? <;> simp
  | m+1,h=>by
    have ih:=decL_st t ht zs m (by omega)
    obtain ⟨y,hy⟩:=get_of_lt (show m / 2<zs.length by omega)
    have hst:∀ (n j:Nat),(stD t zs n)[j]?=zs[j]?.map fun y=>{ y with b0:=if 2*j<n then decE t y.b0 else y.b0,b1:=if 2*j+1<n then decE t y.b1 else y.b1 }:=fun n j=>by unfold stD; rw [List.getElem?_mapIdx]
    have hed:edV zs m=if m % 2=0 then y.b0 else y.b1:=by unfold edV; rw [hy]
    by_cases hs:0≤edV zs m
    · rw [edgP_yes hs,decL_snoc,ih]
      unfold decAt
      rw [hst,hy]
      simp only [Option.map_some]
      refine List.ext_getElem? fun j=>?_
      rw [List.getElem?_set]
      by_cases e:m / 2=j
      · subst e
        rw [if_pos rfl,if_pos (by unfold stD; rw [List.length_mapIdx]; omega),hst,hy]
        simp only [Option.map_some,Option.some.injEq]
        by_cases hp:m % 2=0
        · rw [if_pos hp]
          have e1:¬ 2*(m / 2)<m:=by omega
          have e2:¬ 2*(m / 2)+1<m:=by omega
          have e3:2*(m / 2)<m+1:=by omega
          have e4:¬ 2*(m / 2)+1<m+1:=by omega
          simp only [e1,e2,e3,e4,if_true,if_false]
        · rw [if_neg hp]
          have e1:2*(m / 2)<m:=by omega
          have e2:¬ 2*(m / 2)+1<m:=by omega
          have e3:2*(m / 2)<m+1:=by omega
          have e4:2*(m / 2)+1<m+1:=by omega
          simp only [e1,e2,e3,e4,if_true,if_false]
      · rw [if_neg e,hst,hst]
        cases zs[j]? with
        | none=>rfl
        | some z =>
          simp only [Option.map_some,Option.some.injEq]
          have e1:(2*j<m)=(2*j<m+1):=by apply propext; omega
          have e2:(2*j+1<m)=(2*j+1<m+1):=by apply propext; omega
          simp only [e1,e2]
    · rw [edgP_no hs,ih]
      refine List.ext_getElem? fun j=>?_
      rw [hst,hst]
      by_cases e:m / 2=j
      · subst e
        rw [hy]
        simp only [Option.map_some,Option.some.injEq]
        rw [hed] at hs
        by_cases hp:m % 2=0
        · rw [if_pos hp] at hs
          have e1:¬ 2*(m / 2)<m:=by omega
          have e2:¬ 2*(m / 2)+1<m:=by omega
          have e3:2*(m / 2)<m+1:=by omega
          have e4:¬ 2*(m / 2)+1<m+1:=by omega
          simp only [e1,e2,e3,e4,if_true,if_false,decE_neg ht hs]
        · rw [if_neg hp] at hs
          have e1:2*(m / 2)<m:=by omega
          have e2:¬ 2*(m / 2)+1<m:=by omega
          have e3:2*(m / 2)<m+1:=by omega
          have e4:2*(m / 2)+1<m+1:=by omega
          simp only [e1,e2,e3,e4,if_true,if_false,decE_neg ht hs]
      · cases zs[j]? with
        | none=>rfl
        | some z =>
          simp only [Option.map_some,Option.some.injEq]
          have e1:(2*j<m)=(2*j<m+1):=by apply propext; omega
          have e2:(2*j+1<m)=(2*j+1<m+1):=by apply propext; omega
          simp only [e1,e2]
theorem decL_all {t:Int} (ht:0≤t) (zs:List VB):decL t zs (edgP (edV zs) (2*zs.length))=zs.map (decV t):=by
  rw [decL_st t ht zs _ (Nat.le_refl _)]
  unfold stD
  refine List.ext_getElem? fun j=>?_
  rw [List.getElem?_mapIdx,List.getElem?_map]
  cases hz:zs[j]? with
  | none=>rfl
  | some z =>
    have:=(List.getElem?_eq_some_iff.1 hz).1
    simp only [Option.map_some,Option.some.injEq]
    rw [if_pos (by omega),if_pos (by omega)]; rfl
end Go.Proofs.Ytlkcidmmpeebeaa
