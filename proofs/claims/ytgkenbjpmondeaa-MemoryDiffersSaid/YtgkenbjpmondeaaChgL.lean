/- The bases of the pages in which two lists of pages differ, both in order: plain facts. -/
import Derived.Test.YtgkenbjpmondeaaBase
namespace Go.Proofs.Ytgkenbjpmondeaa

def chg : List Pg → List Pg → List Int
  | [], [] => []
  | a :: l, [] => a.1 :: chg l []
  | [], b :: r => b.1 :: chg [] r
  | a :: l, b :: r => if a.1 < b.1 then a.1 :: chg l (b :: r) else if b.1 < a.1 then b.1 :: chg (a :: l) r else if a.2 == b.2 then chg l r else a.1 :: chg l r
termination_by l r => l.length + r.length

theorem drop_cons {α : Type} {l : List α} {k : Nat} {x : α} (h : l[k]? = some x) : l.drop k = x :: l.drop (k + 1) := by
  obtain ⟨hk, rfl⟩ := List.getElem?_eq_some_iff.1 h
  exact List.drop_eq_getElem_cons hk

theorem chg_end {ps qs : List Pg} {a b : Nat} (ha : ps.length ≤ a) (hb : qs.length ≤ b) : chg (ps.drop a) (qs.drop b) = [] := by
  rw [List.drop_eq_nil_of_le ha, List.drop_eq_nil_of_le hb, chg]
theorem chg_left {ps qs : List Pg} {a b : Nat} {x : Int} {ws : List Int} (ha : ps[a]? = some (x, ws)) (hb : qs.length ≤ b) : chg (ps.drop a) (qs.drop b) = x :: chg (ps.drop (a + 1)) (qs.drop b) := by
  rw [List.drop_eq_nil_of_le hb, drop_cons ha, chg]
theorem chg_right {ps qs : List Pg} {a b : Nat} {y : Int} {zs : List Int} (ha : ps.length ≤ a) (hb : qs[b]? = some (y, zs)) : chg (ps.drop a) (qs.drop b) = y :: chg (ps.drop a) (qs.drop (b + 1)) := by
  rw [List.drop_eq_nil_of_le ha, drop_cons hb, chg]
theorem chg_lt {ps qs : List Pg} {a b : Nat} {x y : Int} {ws zs : List Int} (ha : ps[a]? = some (x, ws)) (hb : qs[b]? = some (y, zs)) (h : x < y) : chg (ps.drop a) (qs.drop b) = x :: chg (ps.drop (a + 1)) (qs.drop b) := by
  rw [drop_cons ha, drop_cons hb, chg, if_pos h]
theorem chg_gt {ps qs : List Pg} {a b : Nat} {x y : Int} {ws zs : List Int} (ha : ps[a]? = some (x, ws)) (hb : qs[b]? = some (y, zs)) (h : y < x) : chg (ps.drop a) (qs.drop b) = y :: chg (ps.drop a) (qs.drop (b + 1)) := by
  rw [drop_cons ha, drop_cons hb, chg, if_neg (by simp only; omega), if_pos h]
theorem chg_eq {ps qs : List Pg} {a b : Nat} {x : Int} {ws zs : List Int} (ha : ps[a]? = some (x, ws)) (hb : qs[b]? = some (x, zs)) : chg (ps.drop a) (qs.drop b) = if ws == zs then chg (ps.drop (a + 1)) (qs.drop (b + 1)) else x :: chg (ps.drop (a + 1)) (qs.drop (b + 1)) := by
  rw [drop_cons ha, drop_cons hb, chg, if_neg (by simp only; omega), if_neg (by simp only; omega)]
end Go.Proofs.Ytgkenbjpmondeaa
