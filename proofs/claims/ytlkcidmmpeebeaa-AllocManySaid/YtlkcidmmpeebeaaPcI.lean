/- Proved: the rows of one object of the table written otherwise. Program-independent. -/
import Derived.Test.YtlkcidmmpeebeaaPv2
set_option linter.unusedVariables false
set_option linter.unusedSimpArgs false
namespace Go.PX
open Go.RowKit Go.SX
def updRow:Heap→Nat→List (List PV)→Heap
  | [],_,_=>[]
  | x::H,id,r=>bif Nat.beq x.1 id then (match x.2 with
    | .row e sz p _=>(x.1,.row e sz p r)
    | o=>(x.1,o))::H else x::updRow H id r
theorem updRow_same {id:Nat} {e:TypeId} {sz:Nat} {p:Bool} {rows:List (List PV)}:∀ {H:Heap},hlook H id=some (.row e sz p rows)→updRow H id rows=H
  | x::H,h=>by
    simp only [hlook] at h
    unfold updRow
    cases hb:Nat.beq x.1 id with
    | true =>
      rw [hb] at h
      simp only [cond_true,Option.some.injEq] at h ⊢
      obtain ⟨i,o⟩:=x
      simp only at h
      subst h; rfl
    | false =>
      rw [hb] at h
      simp only [cond_false] at h ⊢
      rw [updRow_same h]
theorem rerow {E:Env} {N:Nat} {R:List Ent} {H:Heap} {nx:Nat} {a:Act} {w:World} {id:Nat} {e:TypeId} {sz:Nat} {p:Bool} {rows:List (List PV)} (rows':List (List PV)) (hS:Sat E N R H nx a w) (hl:hlook H id=some (.row e sz p rows)) (he:rows=rows'):Sat E N R (updRow H id rows') nx a w:=by
  subst he; rw [updRow_same hl]; exact hS
/-- an array of ints in a variable: its cells -/
def c1 (x:Int):PV:=.sc (.int .i64 x)
theorem c1_get {l:List Int} {k:Nat} {z:Int} (h:l[k]?=some z):((l.map c1).drop (0+k*1)).take ([c1 z]:List PV).length=[c1 z]:=by
  rw [Nat.zero_add,Nat.mul_one]
  obtain ⟨hk,rfl⟩:=List.getElem?_eq_some_iff.1 h
  rw [List.drop_eq_getElem_cons (by simpa using hk)]
  simp
theorem c1_over {l:List Int} {k:Nat} (hk:k<l.length) (z:Int):over (l.map c1) (0+k*1) [c1 z]=(l.set k z).map c1:=by
  rw [Nat.zero_add,Nat.mul_one,List.map_set,List.set_eq_take_append_cons_drop,if_pos (by simpa using hk)]
  unfold over; simp
def g (l:List Int) (i:Nat):Int:=(l[i]?).getD 0
/-- the cells of an array of thirteen ints,one by one -/
def cells13 (l:List Int):List PV:=[c1 (g l 0),c1 (g l 1),c1 (g l 2),c1 (g l 3),c1 (g l 4),c1 (g l 5),c1 (g l 6),c1 (g l 7),c1 (g l 8),c1 (g l 9),c1 (g l 10),c1 (g l 11),c1 (g l 12)]
theorem cells13_eq {l:List Int} (h:l.length=13):cells13 l=l.map c1:=by
  match l,h with
  | [_,_,_,_,_,_,_,_,_,_,_,_,_],_=>rfl
theorem cells13_get {l:List Int} {k:Nat} {z:Int} (hl:l.length=13) (h:l[k]?=some z):((cells13 l).drop (0+k*1)).take ([c1 z]:List PV).length=[c1 z]:=by rw [cells13_eq hl]; exact c1_get h
theorem cells13_over {l:List Int} {k:Nat} (hl:l.length=13) (hk:k<13) (z:Int):over (cells13 l) (0+k*1) [c1 z]=cells13 (l.set k z):=by
  rw [cells13_eq hl,cells13_eq (by simpa using hl)]; exact c1_over (by omega) z
theorem cells13_len {l:List Int} {k:Nat} (hk:k<13):0+k*1+1≤(cells13 l).length:=by simp [cells13]; omega
theorem find_range {p:Nat→Bool} {n j:Nat} (hj:j<n) (h:∀ i,i<j→p i=false) (hp:p j=true):(List.range n).find? p=some j:=by
  rw [List.find?_eq_some_iff_append]
  refine ⟨hp,List.range j,(List.range (n-(j+1))).map (·+(j+1)),?_,fun a ha=>by rw [h a (List.mem_range.1 ha)]; rfl⟩
  apply List.ext_getElem? 
  intro i
  rcases Nat.lt_trichotomy i j with q | q | q
  · rw [List.getElem?_append_left (by simpa using q)]; simp [q,Nat.lt_trans q hj]
  · subst q; rw [List.getElem?_append_right (by simp)]; simp [hj]
  · rw [List.getElem?_append_right (by simp; omega)]
    obtain ⟨d,rfl⟩:∃ d,i=j+1+d:=⟨i-(j+1),by omega⟩
    simp only [List.length_range,show j+1+d-j=d+1 by omega,List.getElem?_cons_succ,List.getElem?_map]
    by_cases hd:j+1+d<n
    · rw [List.getElem?_range hd,List.getElem?_range (show d<n-(j+1) by omega)]; simp [Nat.add_comm]
    · simp [hd,show ¬ d<n-(j+1) by omega]
theorem find_range_none {p:Nat→Bool} {n:Nat} (h:∀ i,i<n→p i=false):(List.range n).find? p=none:=by
  rw [List.find?_eq_none]; intro i hi; rw [h i (List.mem_range.1 hi)]; simp
def updBox:Heap→Nat→List PV→Heap
  | [],_,_=>[]
  | x::H,id,r=>bif Nat.beq x.1 id then (match x.2 with
    | .box e _=>(x.1,.box e r)
    | o=>(x.1,o))::H else x::updBox H id r
theorem updBox_same {id:Nat} {e:TypeId} {xs:List PV}:∀ {H:Heap},hlook H id=some (.box e xs)→updBox H id xs=H
  | x::H,h=>by
    simp only [hlook] at h
    unfold updBox
    cases hb:Nat.beq x.1 id with
    | true =>
      rw [hb] at h
      simp only [cond_true,Option.some.injEq] at h ⊢
      obtain ⟨i,o⟩:=x
      simp only at h
      subst h; rfl
    | false =>
      rw [hb] at h
      simp only [cond_false] at h ⊢
      rw [updBox_same h]
theorem rebox {E:Env} {N:Nat} {R:List Ent} {H:Heap} {nx:Nat} {a:Act} {w:World} {id:Nat} {e:TypeId} {xs:List PV} (xs':List PV) (hS:Sat E N R H nx a w) (hl:hlook H id=some (.box e xs)) (he:xs=xs'):Sat E N R (updBox H id xs') nx a w:=by
  subst he; rw [updBox_same hl]; exact hS
end Go.PX

/- Proved: the entries of a map of the table written otherwise; the step of a range over a map. Program-independent. -/
namespace Go.PX
open Go.RowKit Go.SX
def updMp:Heap→Nat→List (Int × Value)→Heap
  | [],_,_=>[]
  | x::H,id,D=>bif Nat.beq x.1 id then (match x.2 with
    | .mp _=>(x.1,.mp D)
    | o=>(x.1,o))::H else x::updMp H id D
theorem updMp_same {id:Nat} {D:List (Int × Value)}:∀ {H:Heap},hlook H id=some (.mp D)→updMp H id D=H
  | x::H,h=>by
    simp only [hlook] at h
    unfold updMp
    cases hb:Nat.beq x.1 id with
    | true =>
      rw [hb] at h
      simp only [cond_true,Option.some.injEq] at h ⊢
      obtain ⟨i,o⟩:=x
      simp only at h
      subst h; rfl
    | false =>
      rw [hb] at h
      simp only [cond_false] at h ⊢
      rw [updMp_same h]
theorem remp {E:Env} {N:Nat} {R:List Ent} {H:Heap} {nx:Nat} {a:Act} {w:World} {id:Nat} {D:List (Int × Value)} (D':List (Int × Value)) (hS:Sat E N R H nx a w) (hl:hlook H id=some (.mp D)) (he:D=D'):Sat E N R (updMp H id D') nx a w:=by
  subst he; rw [updMp_same hl]; exact hS
end Go.PX

/- Proved: the step of a range over a map,on plain data. Program-independent. -/
namespace Go.PX
open Go.RowKit Go.SX Go.ChangeMaps Go.MapKept
variable {P:Program} {E:Env} {N:Nat} {R T:List Ent} {H H0:Heap} {U:Upd} {lo top nx:Nat} {a:Act} {w:World} {Q:Exit→Act→World→Prop}
end Go.PX
