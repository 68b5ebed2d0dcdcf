/- Two lists of pages differ in no page exactly if they are the same; a page that is added is the only one that differs. -/
import Derived.Test.YtgkenbjpmondeaaChgL
import Derived.Test.YtgkenbjpmondeaaAddL
namespace Go.Proofs.Ytgkenbjpmondeaa

theorem chg_self : ∀ ps : List Pg, chg ps ps = []
  | [] => by rw [chg]
  | a :: l => by rw [chg, if_neg (by omega), if_neg (by omega), if_pos (by simp)]; exact chg_self l
theorem chg_same (a : Pg) (l r : List Pg) : chg (a :: l) (a :: r) = chg l r := by
  rw [chg, if_neg (by omega), if_neg (by omega), if_pos (by simp)]
theorem chg_none : ∀ ps qs : List Pg, chg ps qs = [] → ps = qs
  | [], [], _ => rfl
  | a :: l, [], h => by rw [chg] at h; cases h
  | [], b :: r, h => by rw [chg] at h; cases h
  | a :: l, b :: r, h => by
    rw [chg] at h
    by_cases h1 : a.1 < b.1
    · rw [if_pos h1] at h; cases h
    · rw [if_neg h1] at h
      by_cases h2 : b.1 < a.1
      · rw [if_pos h2] at h; cases h
      · rw [if_neg h2] at h
        cases h3 : (a.2 == b.2) with
        | false => rw [h3] at h; simp at h
        | true =>
          rw [h3] at h
          simp at h
          have e : a = b := Prod.ext (by omega) (by simpa using h3)
          rw [e, chg_none l r h]
theorem chg_len (ps qs : List Pg) : decide ((chg ps qs).length = 0) = (ps == qs) := by
  rw [Bool.eq_iff_iff]
  simp only [decide_eq_true_eq, beq_iff_eq, List.length_eq_zero_iff]
  exact ⟨chg_none ps qs, fun h => by rw [h]; exact chg_self qs⟩
theorem chg_pre : ∀ t l r : List Pg, chg (t ++ l) (t ++ r) = chg l r
  | [], l, r => rfl
  | a :: t, l, r => by rw [List.cons_append, List.cons_append, chg_same]; exact chg_pre t l r

theorem fil_base {ps : List Pg} {x : Int} {q : Pg} (h : q ∈ fil x ps) : q.1 ≠ x := by
  unfold fil at h
  simpa using (List.mem_filter.1 h).2
theorem take_drop (rs : List Pg) (x : Int) : rs.takeWhile (fun q => decide (q.1 < x)) ++ rs.dropWhile (fun q => decide (q.1 < x)) = rs := List.takeWhile_append_dropWhile
theorem chg_add {rs : List Pg} {p : Pg} (h : ∀ q ∈ rs, q.1 ≠ p.1) : chg (addF rs p) rs = [p.1] := by
  have e : addF rs p = rs.takeWhile (fun q => decide (q.1 < p.1)) ++ (p :: rs.dropWhile (fun q => decide (q.1 < p.1))) := by unfold addF; simp
  rw [e]
  conv => lhs; arg 2; rw [← take_drop rs p.1]
  rw [chg_pre]
  cases hd : rs.dropWhile (fun q => decide (q.1 < p.1)) with
  | nil => rw [chg, chg]
  | cons d D =>
    have hmem : d ∈ rs := by
      have : d ∈ rs.dropWhile (fun q => decide (q.1 < p.1)) := by rw [hd]; simp
      exact (List.dropWhile_sublist _).subset this
    have hnot : ¬ d.1 < p.1 := by
      have := List.head?_dropWhile_not (fun q : Pg => decide (q.1 < p.1)) rs
      rw [hd] at this
      simpa using this
    have := h d hmem
    rw [chg, if_pos (by omega), chg_self]
theorem fil_add {ps : List Pg} {p : Pg} : fil p.1 (addF (fil p.1 ps) p) = fil p.1 ps := by
  have h : ∀ q ∈ fil p.1 ps, q.1 ≠ p.1 := fun q hq => fil_base hq
  have e : addF (fil p.1 ps) p = (fil p.1 ps).takeWhile (fun q => decide (q.1 < p.1)) ++ (p :: (fil p.1 ps).dropWhile (fun q => decide (q.1 < p.1))) := by unfold addF; simp
  generalize fil p.1 ps = rs at h e ⊢
  rw [e]
  have h1 : (rs.takeWhile (fun q => decide (q.1 < p.1))).filter (fun q => q.1 != p.1) = rs.takeWhile (fun q => decide (q.1 < p.1)) := List.filter_eq_self.2 fun q hq => by simpa using h q ((List.takeWhile_sublist _).subset hq)
  have h2 : (rs.dropWhile (fun q => decide (q.1 < p.1))).filter (fun q => q.1 != p.1) = rs.dropWhile (fun q => decide (q.1 < p.1)) := List.filter_eq_self.2 fun q hq => by simpa using h q ((List.dropWhile_sublist _).subset hq)
  unfold fil
  rw [List.filter_append, List.filter_cons, h1, h2]
  simp
end Go.Proofs.Ytgkenbjpmondeaa
