/- Proved: the rows of one object of the table written otherwise. Program-independent. -/
import Derived.Test.YtlkcidmmpeebeaaPv2
set_option linter.unusedVariables false
set_option linter.unusedSimpArgs false
namespace Go.PX
open Go.RowKit Go.SX
def updRow:Heap→Nat→List (List PV)→Heap
  | [],_,_=>[]
  | x::H,id,r=>bif Nat.beq x.1 id then (match x.2 with
    | .row e sz p _=>(x.1,.row e sz p r)
    | o=>(x.1,o))::H else x::updRow H id r
theorem updRow_same {id:Nat} {e:TypeId} {sz:Nat} {p:Bool} {rows:List (List PV)}:∀ {H:Heap},hlook H id=some (.row e sz p rows)→updRow H id rows=H
  | x::H,h=>by
    simp only [hlook] at h
    unfold updRow
    cases hb:Nat.beq x.1 id with
    | true =>
      rw [hb] at h
      simp only [cond_true,Option.some.injEq] at h ⊢
      obtain ⟨i,o⟩:=x
      simp only at h
      subst h; rfl
    | false =>
      rw [hb] at h
      simp only [cond_false] at h ⊢
      rw [updRow_same h]
theorem rerow {E:Env} {N:Nat} {R:List Ent} {H:Heap} {nx:Nat} {a:Act} {w:World} {id:Nat} {e:TypeId} {sz:Nat} {p:Bool} {rows:List (List PV)} (rows':List (List PV)) (hS:Sat E N R H nx a w) (hl:hlook H id=some (.row e sz p rows)) (he:rows=rows'):Sat E N R (updRow H id rows') nx a w:=by
  subst he; rw [updRow_same hl]; exact hS
/-- an array of ints in a variable: its cells -/
def c1 (x:Int):PV:=.sc (.int .i64 x)
theorem c1_get {l:List Int} {k:Nat} {z:Int} (h:l[k]?=some z):((l.map c1).drop (0+k*1)).take ([c1 z]:List PV).length=[c1 z]:=by
  rw [Nat.zero_add,Nat.mul_one]
  obtain ⟨hk,rfl⟩:=List.getElem?_eq_some_iff.1 h
  rw [List.drop_eq_getElem_cons (by simpa using hk)]
  simp
theorem c1_over {l:List Int} {k:Nat} (hk:k<l.length) (z:Int):over (l.map c1) (0+k*1) [c1 z]=(l.set k z).map c1:=by
  rw [Nat.zero_add,Nat.mul_one,List.map_set,List.set_eq_take_append_cons_drop,if_pos (by simpa using hk)]
  unfold over; simp
def g (l:List Int) (i:Nat):Int:=(l[i]?).getD 0
/-- the cells of an array of thirteen ints,one by one -/
def cells13 (l:List Int):List PV:=[c1 (g l 0),c1 (g l 1),c1 (g l 2),c1 (g l 3),c1 (g l 4),c1 (g l 5),c1 (g l 6),c1 (g l 7),c1 (g l 8),c1 (g l 9),c1 (g l 10),c1 (g l 11),c1 (g l 12)]
theorem cells13_eq {l:List Int} (h:l.length=13):cells13 l=l.map c1:=by
  match l,h with
  | [_,_,_,_,_,_,_,_,_,_,_,_,_],_=>rfl
theorem cells13_get {l:List Int} {k:Nat} {z:Int} (hl:l.length=13) (h:l[k]?=some z):((cells13 l).drop (0+k*1)).take ([c1 z]:List PV).length=[c1 z]:=by rw [cells13_eq hl]; exact c1_get h
theorem cells13_over {l:List Int} {k:Nat} (hl:l.length=13) (hk:k<13) (z:Int):over (cells13 l) (0+k*1) [c1 z]=cells13 (l.set k z):=by
  rw [cells13_eq hl,cells13_eq (by simpa using hl)]; exact c1_over (by omega) z
theorem cells13_len {l:List Int} {k:Nat} (hk:k<13):0+k*1+1≤(cells13 l).length:=by simp [cells13]; omega
theorem find_range {p:Nat→Bool} {n j:Nat} (hj:j<n) (h:∀ i,i<j→p i=false) (hp:p j=true):(List.range n).find? p=some j:=by
  rw [List.find?_eq_some_iff_append]
  refine ⟨hp,List.range j,(List.range (n-(j+1))).map (·+(j+1)),?_,fun a ha=>by rw [h a (List.mem_range.1 ha)]; rfl⟩
  apply List.ext_getElem? 
  intro i
  rcases Nat.lt_trichotomy i j with q | q | q
  · rw [List.getElem?_append_left (by simpa using q)]; simp [q,Nat.lt_trans q hj]
  · subst q; rw [List.getElem?_append_right (by simp)]; simp [hj]
  · rw [List.getElem?_append_right (by simp; omega)]
    obtain ⟨d,rfl⟩:∃ d,i=j+1+d:=⟨i-(j+1),by omega⟩
    simp only [List.length_range,show j+1+d-j=d+1 by omega,List.getElem?_cons_succ,List.getElem?_map]
    by_cases hd:j+1+d<n
    · rw [List.getElem?_range hd,List.getElem?_range (show d<n-(j+1) by omega)]; simp [Nat.add_comm]
    · simp [hd,show ¬ d<n-(j+1) by omega]
theorem find_range_none {p:Nat→Bool} {n:Nat} (h:∀ i,i<n→p i=false):(List.range n).find? p=none:=by
  rw [List.find?_eq_none]; intro i hi; rw [h i (List.mem_range.1 hi)]; simp
def updBox:Heap→Nat→List PV→Heap
  | [],_,_=>[]
  | x::H,id,r=>bif Nat.beq x.1 id then (match x.2 with
    | .box e _=>(x.1,.box e r)
    | o=>(x.1,o))::H else x::updBox H id r
theorem updBox_same {id:Nat} {e:TypeId} {xs:List PV}:∀ {H:Heap},hlook H id=some (.box e xs)→updBox H id xs=H
  | x::H,h=>by
    simp only [hlook] at h
    unfold updBox
    cases hb:Nat.beq x.1 id with
    | true =>
      rw [hb] at h
      simp only [cond_true,Option.some.injEq] at h ⊢
      obtain ⟨i,o⟩:=x
      simp only at h
      subst h; rfl
    | false =>
      rw [hb] at h
      simp only [cond_false] at h ⊢
      rw [updBox_same h]
theorem rebox {E:Env} {N:Nat} {R:List Ent} {H:Heap} {nx:Nat} {a:Act} {w:World} {id:Nat} {e:TypeId} {xs:List PV} (xs':List PV) (hS:Sat E N R H nx a w) (hl:hlook H id=some (.box e xs)) (he:xs=xs'):Sat E N R (updBox H id xs') nx a w:=by
  subst he; rw [updBox_same hl]; exact hS
end Go.PX

/- Proved: the entries of a map of the table written otherwise; the step of a range over a map. Program-independent. -/
namespace Go.PX
open Go.RowKit Go.SX
def updMp:Heap→Nat→List (Int × Value)→Heap
  | [],_,_=>[]
  | x::H,id,D=>bif Nat.beq x.1 id then (match x.2 with
    | .mp _=>(x.1,.mp D)
    | o=>(x.1,o))::H else x::updMp H id D
theorem updMp_same {id:Nat} {D:List (Int × Value)}:∀ {H:Heap},hlook H id=some (.mp D)→updMp H id D=H
  | x::H,h=>by
    simp only [hlook] at h
    unfold updMp
    cases hb:Nat.beq x.1 id with
    | true =>
      rw [hb] at h
      simp only [cond_true,Option.some.injEq] at h ⊢
      obtain ⟨i,o⟩:=x
      simp only at h
      subst h; rfl
    | false =>
      rw [hb] at h
      simp only [cond_false] at h ⊢
      rw [updMp_same h]
theorem remp {E:Env} {N:Nat} {R:List Ent} {H:Heap} {nx:Nat} {a:Act} {w:World} {id:Nat} {D:List (Int × Value)} (D':List (Int × Value)) (hS:Sat E N R H nx a w) (hl:hlook H id=some (.mp D)) (he:D=D'):Sat E N R (updMp H id D') nx a w:=by
  subst he; rw [updMp_same hl]; exact hS
end Go.PX

/- Proved: the step of a range over a map,on plain data. Program-independent. -/
namespace Go.PX
open Go.RowKit Go.SX Go.ChangeMaps Go.MapKept
variable {P:Program} {E:Env} {N:Nat} {R T:List Ent} {H H0:Heap} {U:Upd} {lo top nx:Nat} {a:Act} {w:World} {Q:Exit→Act→World→Prop}
theorem RS.put_other {σ:Nm} {Z:Nat→Prop} {w:World} {N:Nat} {κ:List (Nat × Bool)} {R:List Ent} {a:Act} (h:RS σ Z w N κ R a) {t:Nat} {u:Value} (hn:look R t=none):RS σ Z w N κ R (a.put (some t) u) :=
  ⟨h.defers,by simp [Act.put,h.size],fun t' e he=>by
    have hne:t≠t':=by rintro rfl; rw [hn] at he; cases he
    have e1:(a.put (some t) u).tmps[t']?=a.tmps[t']?:=by simp [Act.put,Array.getElem?_setIfInBounds_ne hne]
    rw [e1]; exact h.at_ t' e he⟩
theorem RS.put_at {σ:Nm} {Z:Nat→Prop} {w:World} {N:Nat} {κ:List (Nat × Bool)} {R:List Ent} {a:Act} (h:RS σ Z w N κ R a) {t:Nat} {u:Value} {x:PV} (ht:t<N) (hv:VR σ Z w u x):RS σ Z w N κ (⟨t,[],x⟩::R) (a.put (some t) u) :=
  ⟨h.defers,by simp [Act.put,h.size],fun t' e he=>by
    simp only [look] at he
    cases hb:Nat.beq t t' with
    | true =>
      rw [hb] at he
      simp only [cond_true,Option.some.injEq] at he
      obtain rfl:=Nat.eq_of_beq_eq_true hb
      subst he
      refine ⟨fun _=>⟨u,?_,hv⟩,fun q=>by cases q⟩
      simp [Act.put,h.size,ht]
    | false =>
      rw [hb] at he
      have hne:t≠t':=by rintro rfl; simp at hb
      have e1:(a.put (some t) u).tmps[t']?=a.tmps[t']?:=by simp [Act.put,Array.getElem?_setIfInBounds_ne hne]
      rw [e1]; exact h.at_ t' e he⟩
/-- 'next' and the look at its answer -/
theorem next_s {id:Nat} {o1 o2:Oper} {t0 t1 t2 i m since c0 cl:Nat} {seen:Array Nat} {es:Array MapEntry} (hS:Sat E N R H nx a w)
    (h1:o1.op=.next (.tmp t0) false) (d1:o1.dst=some t1) (g1:o1.guard=none) (h2:o2.op=.extract (.tmp t1) 0) (d2:o2.dst=some t2) (g2:o2.guard=none)
    (n1:Nat.blt t1 N=true) (n2:Nat.blt t2 N=true) (hn:look R t1=none) (hx:opd R [] (.tmp t0)=some (.ptr i 0)) (hi:hlook H i=some (.rit m since seen c0)) (hm:hlook H m=some (.rmap es cl))
    (hold:∀ x∈es.toList,x.born<since) (hsc:since≤c0) (htop:nx≤E.top)
    (k0:(leftOf es seen).size=0→∀ a' w',Sat E N (⟨t2,[],.sc (.bool false)⟩::R) H nx a' w'→Q .normal a' w')
    (k1:∀ e∈(leftOf es seen).toList,∀ a' w',Sat E N (⟨t2,[],.sc (.bool true)⟩::R) (happ [(i,some (.rit m since (seen.push e.born) cl))] H) nx a' w'→Q .normal a' w') :
    (Code.region id #[o1,o2] false).wp P Q a w:=by
  obtain ⟨σ,Z,hr⟩:=hS
  have n1:t1<N:=by simpa using n1
  have n2:t2<N:=by simpa using n2
  have hv:=hr.rs.opd (p:=[]) rfl hx
  generalize hav:a.eval (.tmp t0)=vx at hv
  obtain ⟨bi,ci,bm,cm,q1,q2,q3⟩:=hr.hr.at_ i _ hi
  obtain ⟨b2,c2,q4,q5⟩:=hr.hr.at_ m _ hm
  rw [q2] at q4; simp only [Option.some.injEq,Prod.mk.injEq] at q4; obtain ⟨rfl,rfl⟩:=q4
  have hsz:t1<a.tmps.size:=by rw [hr.rs.size]; exact n1
  refine wp_region_lit (l:=[o1,o2]) ?_
  have w1:∀ y,Region.wanted o1 y=true:=fun y=>by unfold Region.wanted; rw [g1]
  have w2:∀ y,Region.wanted o2 y=true:=fun y=>by unfold Region.wanted; rw [g2]
  cases hv with
  | ptr _ _ b c hs =>
    rw [hs] at q1; simp only [Option.some.injEq,Prod.mk.injEq] at q1; obtain ⟨rfl,rfl⟩:=q1
    have ext:∀ (v:Value) (bb:Bool) (l:Array Value) (a':Act) (w':World),v=.tuple l→l[0]?=some (.bool bb)→(∀ a'' w'',a''=(a'.put (some t1) v).put (some t2) (.bool bb)→w''=w'→Q .normal a'' w'')→t1<a'.tmps.size→wpList P #[o1,o2] Q [o2] (a'.put (some t1) v) w':=fun v bb l a' w' hv hl hQ hsz'=>by
      simp only [wpList,w2,if_true]
      refine .inl ?_
      unfold Oper.wp
      have he:(a'.put (some t1) v).eval (.tmp t1)=v:=by simp [Act.eval,Act.put,hsz']
      have hrun:(execOp (a'.put (some t1) v).eval o2).run P w'=.ok (.value (.bool bb)) w':=by
        subst hv
        simp [execOp,h2,he,hl,Instr.extract,Sem.run_bind]
      rw [hrun]
      show Q .normal ((a'.put (some t1) v).put o2.dst (.bool bb)) w'
      rw [d2]
      exact hQ _ _ rfl rfl
    rcases run_next_at (P:=P) w o1.type b bm since c0 seen es cl q3 q5 hold hsc with ⟨h0,hrun⟩ | ⟨e,he,w1',hal,hrun⟩
    · simp only [List.toArray,wpList,w1,if_true]
      refine .inl ?_
      unfold Oper.wp
      have hrun':(execOp a.eval o1).run P w=.ok (.value (.tuple #[.bool false])) w:=by
        simp [execOp,h1,hav,Sem.run_bind,hrun]
      rw [hrun']
      show wpList P #[o1,o2] Q [o2] (a.put o1.dst _) w
      rw [d1]
      refine ext _ false _ a w rfl rfl (fun a'' w'' e1 e2=>?_) hsz
      rw [e1,e2]
      exact k0 h0 _ _ ⟨σ,Z,⟨(hr.rs.put_other hn).put_at n2 (.sc _ rfl),hr.hr,hr.fr,hr.lo,hr.ext,hr.dom,hr.own,hr.chg,hr.zold,hr.z0⟩⟩
    · simp only [List.toArray,wpList,w1,if_true]
      refine .inl ?_
      unfold Oper.wp
      generalize hw':setBlock w1' b (.mapIter (some bm) since (seen.push e.born) cl)=w' at hrun
      have hrun':(execOp a.eval o1).run P w=.ok (.value (.tuple #[.bool true,e.key,e.val])) w':=by
        simp [execOp,h1,hav,Sem.run_bind,hrun]
      rw [hrun']
      show wpList P #[o1,o2] Q [o2] (a.put o1.dst _) w'
      rw [d1]
      refine ext _ true _ a w' rfl rfl (fun a'' w'' e1 e2=>?_) hsz
      rw [e1,e2]
      have hr1:w1'.heap[b]?=some (.mapIter (some bm) since seen c0):=by rcases hal with rfl | rfl <;> exact q3
      have hset:=heap_set (o':=.mapIter (some bm) since (seen.push e.born) cl) hr1
      have hc:Chg (fun x=>x=b) w w':=by
        subst hw'
        rcases hal with rfl | rfl <;> exact ⟨rfl,rfl,rfl,by simp [setBlock],fun k _ hk=>hset.2 k hk⟩
      have he':Eff σ Z w H [(i,some (.rit m since (seen.push e.born) cl))] σ Z w':=eff_upd hr.hr hi hs hc ⟨b,c,bm,cm,hs,q2,by rw [← hw']; exact hset.1⟩
      have hm':=hr.mem.step he' (Nat.le_refl _) htop fun id hid=>by
        rw [ulook_one] at hid
        split at hid
        · rename_i e'; subst e'; left; rw [hi]; simp
        · exact absurd rfl hid
      exact k1 e he _ _ ⟨σ,Z,⟨((hr.rs.eff hr.hr he').put_other hn).put_at n2 (.sc _ rfl),hm'.hr,hm'.fr,hm'.lo,hm'.ext,hm'.dom,hm'.own,hm'.chg,hm'.zold,hm'.z0⟩⟩
end Go.PX
