/- Proved: the rows of one object of the table written otherwise. Program-independent. -/
import Derived.Test.YtlkcidmmpeebeaaPcD
set_option linter.unusedVariables false
set_option linter.unusedSimpArgs false
namespace Go.PX
open Go.RowKit Go.SX
def updRow:Heap→Nat→List (List PV)→Heap
  | [],_,_=>[]
  | x::H,id,r=>bif Nat.beq x.1 id then (match x.2 with
    | .row e sz p _=>(x.1,.row e sz p r)
    | o=>(x.1,o))::H else x::updRow H id r
theorem updRow_same {id:Nat} {e:TypeId} {sz:Nat} {p:Bool} {rows:List (List PV)}:∀ {H:Heap},hlook H id=some (.row e sz p rows)→updRow H id rows=H
  | x::H,h=>by
    simp only [hlook] at h
    unfold updRow
    cases hb:Nat.beq x.1 id with
    | true =>
      rw [hb] at h
      simp only [cond_true,Option.some.injEq] at h ⊢
      obtain ⟨i,o⟩:=x
      simp only at h
      subst h; rfl
    | false =>
      rw [hb] at h
      simp only [cond_false] at h ⊢
      rw [updRow_same h]
theorem rerow {E:Env} {N:Nat} {R:List Ent} {H:Heap} {nx:Nat} {a:Act} {w:World} {id:Nat} {e:TypeId} {sz:Nat} {p:Bool} {rows:List (List PV)} (rows':List (List PV)) (hS:Sat E N R H nx a w) (hl:hlook H id=some (.row e sz p rows)) (he:rows=rows'):Sat E N R (updRow H id rows') nx a w:=by
  subst he; rw [updRow_same hl]; exact hS
/-- an array of ints in a variable: its cells -/
def c1 (x:Int):PV:=.sc (.int .i64 x)
def g (l:List Int) (i:Nat):Int:=(l[i]?).getD 0
def updBox:Heap→Nat→List PV→Heap
  | [],_,_=>[]
  | x::H,id,r=>bif Nat.beq x.1 id then (match x.2 with
    | .box e _=>(x.1,.box e r)
    | o=>(x.1,o))::H else x::updBox H id r
theorem updBox_same {id:Nat} {e:TypeId} {xs:List PV}:∀ {H:Heap},hlook H id=some (.box e xs)→updBox H id xs=H
  | x::H,h=>by
    simp only [hlook] at h
    unfold updBox
    cases hb:Nat.beq x.1 id with
    | true =>
      rw [hb] at h
      simp only [cond_true,Option.some.injEq] at h ⊢
      obtain ⟨i,o⟩:=x
      simp only at h
      subst h; rfl
    | false =>
      rw [hb] at h
      simp only [cond_false] at h ⊢
      rw [updBox_same h]
theorem rebox {E:Env} {N:Nat} {R:List Ent} {H:Heap} {nx:Nat} {a:Act} {w:World} {id:Nat} {e:TypeId} {xs:List PV} (xs':List PV) (hS:Sat E N R H nx a w) (hl:hlook H id=some (.box e xs)) (he:xs=xs'):Sat E N R (updBox H id xs') nx a w:=by
  subst he; rw [updBox_same hl]; exact hS
end Go.PX
