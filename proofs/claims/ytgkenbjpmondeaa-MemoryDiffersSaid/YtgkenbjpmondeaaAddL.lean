/- A page that is put where the search says is the page that is added: plain facts. -/
import Derived.Test.YtgkenbjpmondeaaSomeL
namespace Go.Proofs.Ytgkenbjpmondeaa

theorem fil_none {ps : List Pg} {x : Int} (h : ∀ p ∈ ps, p.1 ≠ x) : fil x ps = ps := by
  unfold fil
  rw [List.filter_eq_self]
  intro p hp
  simpa using h p hp
theorem GoodL.lt_of {ps : List Pg} (hg : GoodL ps) {i j : Nat} {p q : Pg} (hij : i < j) (hi : ps[i]? = some p) (hj : ps[j]? = some q) : p.1 < q.1 :=
  hg.good.2.2 i j p.1 q.1 p.2 q.2 hij hi hj

/-- not there: it is put in -/
theorem add_new {ps : List Pg} (hg : GoodL ps) {p : Pg} {r : Nat} (hr : r ≤ ps.length) (h1 : r = 0 ∨ ∃ q, ps[r - 1]? = some q ∧ q.1 < p.1) (h2 : r = ps.length ∨ ∃ q, ps[r]? = some q ∧ p.1 < q.1) :
    ps.take r ++ [p] ++ ps.drop r = addF (fil p.1 ps) p := by
  have below : ∀ j q, j < r → ps[j]? = some q → q.1 < p.1 := fun j q hj hq => by
    rcases h1 with h1 | ⟨q', hq', hlt⟩
    · omega
    · rcases Nat.lt_or_ge j (r - 1) with h | h
      · have := hg.lt_of h hq hq'; omega
      · obtain rfl : j = r - 1 := by omega
        rw [hq] at hq'; simp at hq'; subst hq'; exact hlt
  have above : ∀ j q, r ≤ j → ps[j]? = some q → p.1 < q.1 := fun j q hj hq => by
    have hjl := (List.getElem?_eq_some_iff.1 hq).1
    rcases h2 with h2 | ⟨q', hq', hlt⟩
    · omega
    · rcases Nat.lt_or_ge r j with h | h
      · have := hg.lt_of h hq' hq; omega
      · obtain rfl : j = r := by omega
        rw [hq] at hq'; simp at hq'; subst hq'; exact hlt
  have hf : fil p.1 ps = ps := fil_none fun q hq => by
    obtain ⟨j, hj⟩ := List.mem_iff_getElem?.1 hq
    rcases Nat.lt_or_ge j r with h | h
    · have := below j q h hj; omega
    · have := above j q h hj; omega
  rw [hf]
  exact AddP.eq ⟨r, hr, fun j y zs hj hy => below j (y, zs) hj hy, fun y zs hy => by have := above r (y, zs) (Nat.le_refl _) hy; simp only at this ⊢; omega, rfl⟩

/-- there: it is put in its place -/
theorem add_there {ps : List Pg} (hg : GoodL ps) {p : Pg} {r : Nat} {ws : List Int} (hr : ps[r]? = some (p.1, ws)) : ps.set r p = addF (fil p.1 ps) p := by
  have hrl := (List.getElem?_eq_some_iff.1 hr).1
  have hsplit : ps = ps.take r ++ (p.1, ws) :: ps.drop (r + 1) := by
    conv => lhs; rw [← List.take_append_drop r ps]
    congr 1
    obtain ⟨h, e⟩ := List.getElem?_eq_some_iff.1 hr
    rw [List.drop_eq_getElem_cons h, e]
  have hset : ps.set r p = ps.take r ++ [p] ++ ps.drop (r + 1) := by
    rw [List.set_eq_take_append_cons_drop, if_pos hrl]; simp
  have tk : ∀ q ∈ ps.take r, q.1 < p.1 := fun q hq => by
    obtain ⟨j, hj⟩ := List.mem_iff_getElem?.1 hq
    rw [List.getElem?_take] at hj
    split at hj
    · exact hg.lt_of (q := (p.1, ws)) (by assumption) hj hr
    · cases hj
  have dr : ∀ q ∈ ps.drop (r + 1), p.1 < q.1 := fun q hq => by
    obtain ⟨j, hj⟩ := List.mem_iff_getElem?.1 hq
    rw [List.getElem?_drop] at hj
    exact hg.lt_of (i := r) (p := (p.1, ws)) (by omega) hr hj
  have hf : fil p.1 ps = ps.take r ++ ps.drop (r + 1) := by
    have e : fil p.1 ps = fil p.1 (ps.take r ++ (p.1, ws) :: ps.drop (r + 1)) := by rw [← hsplit]
    rw [e]
    unfold fil
    rw [List.filter_append, List.filter_cons]
    have e1 : (ps.take r).filter (fun q => q.1 != p.1) = ps.take r := List.filter_eq_self.2 fun q hq => by have := tk q hq; simp; omega
    have e2 : (ps.drop (r + 1)).filter (fun q => q.1 != p.1) = ps.drop (r + 1) := List.filter_eq_self.2 fun q hq => by have := dr q hq; simp; omega
    rw [e1, e2]
    simp
  have hlen : (ps.take r).length = r := by simp; omega
  rw [hf, hset]
  refine AddP.eq ⟨r, by simp; omega, fun j y zs hj hy => ?_, fun y zs hy => ?_, ?_⟩
  · rw [List.getElem?_append_left (by omega)] at hy
    exact tk (y, zs) (List.mem_of_getElem? hy)
  · rw [List.getElem?_append_right (by omega)] at hy
    have := dr (y, zs) (List.mem_of_getElem? hy)
    simp only at this
    omega
  · have e1 : (ps.take r ++ ps.drop (r + 1)).take r = ps.take r := by rw [List.take_append_of_le_length (by omega), List.take_of_length_le (by omega)]
    have e2 : (ps.take r ++ ps.drop (r + 1)).drop r = ps.drop (r + 1) := by rw [List.drop_append_of_le_length (by omega), List.drop_eq_nil_of_le (by omega), List.nil_append]
    rw [e1, e2]
end Go.Proofs.Ytgkenbjpmondeaa
