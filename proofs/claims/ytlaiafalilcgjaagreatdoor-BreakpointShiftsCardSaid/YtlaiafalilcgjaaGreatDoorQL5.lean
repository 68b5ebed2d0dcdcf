/- Proved: plain laws of the lines that correspond: the longest common subsequence, what a walk through its table answers. Program-independent. -/
import Derived.Test.YtlaiafalilcgjaaGreatDoorQL4
import Derived.Test.YtlaiafalilcgjaaGreatDoorProg
import Derived.IntWalk
set_option linter.unusedVariables false
set_option linter.unusedSimpArgs false
namespace Go.BK
/-- the lines of a text -/
def cutL : List UInt8 → List UInt8 → List (List UInt8)
  | cur, [] => [cur]
  | cur, c :: l => if c = 10 then cur :: cutL [] l else cutL (cur ++ [c]) l
def linesL (l : List UInt8) : List (List UInt8) := cutL [] l
section
variable {α : Type} [DecidableEq α]
/-- the length of a longest common subsequence -/
def lcs : List α → List α → Nat
  | [], _ => 0
  | _ :: _, [] => 0
  | x :: a, y :: b => if x = y then lcs a b + 1 else max (lcs a (y :: b)) (lcs (x :: a) b)
termination_by a b => a.length + b.length
theorem lcs_nil (b : List α) : lcs [] b = 0 := by unfold lcs; rfl
theorem lcs_nil' (a : List α) : lcs a [] = 0 := by cases a <;> (unfold lcs; rfl)
theorem lcs_cons (x y : α) (a b : List α) : lcs (x :: a) (y :: b) = if x = y then lcs a b + 1 else max (lcs a (y :: b)) (lcs (x :: a) b) := by
  conv => lhs; unfold lcs
theorem lcs_ex : ∀ (a b : List α), ∃ l : List α, l.Sublist a ∧ l.Sublist b ∧ l.length = lcs a b
  | [], b => ⟨[], List.nil_sublist _, List.nil_sublist _, by rw [lcs_nil]; rfl⟩
  | x :: a, [] => ⟨[], List.nil_sublist _, List.nil_sublist _, by rw [lcs_nil']; rfl⟩
  | x :: a, y :: b => by
    rw [lcs_cons]
    by_cases h : x = y
    · subst h
      obtain ⟨l, h1, h2, h3⟩ := lcs_ex a b
      exact ⟨x :: l, h1.cons_cons x, h2.cons_cons x, by rw [if_pos rfl, List.length_cons, h3]⟩
    · rw [if_neg h]
      by_cases hm : lcs (x :: a) b ≤ lcs a (y :: b)
      · obtain ⟨l, h1, h2, h3⟩ := lcs_ex a (y :: b)
        exact ⟨l, h1.cons x, h2, by omega⟩
      · obtain ⟨l, h1, h2, h3⟩ := lcs_ex (x :: a) b
        exact ⟨l, h1, h2.cons y, by omega⟩
termination_by a b => a.length + b.length
theorem lcs_max : ∀ (a b l : List α), l.Sublist a → l.Sublist b → l.length ≤ lcs a b
  | [], b, l, h1, _ => by have := h1.length_le; simp at this; subst this; exact Nat.zero_le _
  | x :: a, [], l, _, h2 => by have := h2.length_le; simp at this; subst this; exact Nat.zero_le _
  | x :: a, y :: b, [], _, _ => Nat.zero_le _
  | x :: a, y :: b, z :: l, h1, h2 => by
    rw [lcs_cons]
    by_cases h : x = y
    · rw [if_pos h]
      have := lcs_max a b l (by simpa using h1.tail) (by simpa using h2.tail)
      simp only [List.length_cons]; omega
    · rw [if_neg h]
      rcases List.sublist_cons_iff.1 h1 with q | ⟨r, e, q⟩
      · have := lcs_max a (y :: b) (z :: l) q h2; omega
      · rcases List.sublist_cons_iff.1 h2 with q2 | ⟨r2, e2, q2⟩
        · have := lcs_max (x :: a) b (z :: l) h1 q2; omega
        · injection e with e _; injection e2 with e2 _; exact absurd (e.symm.trans e2) h
termination_by a b => a.length + b.length
theorem lcs_mono {a a' b b' : List α} (h1 : a.Sublist a') (h2 : b.Sublist b') : lcs a b ≤ lcs a' b' := by
  obtain ⟨l, q1, q2, q3⟩ := lcs_ex a b
  rw [← q3]; exact lcs_max _ _ _ (q1.trans h1) (q2.trans h2)
theorem lcs_le_left (a b : List α) : lcs a b ≤ a.length := by
  obtain ⟨l, q1, q2, q3⟩ := lcs_ex a b
  rw [← q3]; exact q1.length_le
theorem lcs_le_right (a b : List α) : lcs a b ≤ b.length := by
  obtain ⟨l, q1, q2, q3⟩ := lcs_ex a b
  rw [← q3]; exact q2.length_le
theorem lcs_left (x : α) (a b : List α) : lcs (x :: a) b ≤ lcs a b + 1 := by
  obtain ⟨l, q1, q2, q3⟩ := lcs_ex (x :: a) b
  rw [← q3]
  cases l with
  | nil => exact Nat.zero_le _
  | cons z l => have := lcs_max a b l (by simpa using q1.tail) ((List.sublist_cons_self z l).trans q2); simp only [List.length_cons]; omega
theorem lcs_right (y : α) (a b : List α) : lcs a (y :: b) ≤ lcs a b + 1 := by
  obtain ⟨l, q1, q2, q3⟩ := lcs_ex a (y :: b)
  rw [← q3]
  cases l with
  | nil => exact Nat.zero_le _
  | cons z l => have := lcs_max a b l ((List.sublist_cons_self z l).trans q1) (by simpa using q2.tail); simp only [List.length_cons]; omega
theorem lcs_rev (a b : List α) : lcs a.reverse b.reverse = lcs a b := by
  have h : ∀ a b : List α, lcs a b ≤ lcs a.reverse b.reverse := fun a b => by
    obtain ⟨l, q1, q2, q3⟩ := lcs_ex a b
    rw [← q3, ← List.length_reverse]; exact lcs_max _ _ _ q1.reverse q2.reverse
  have h1 := h a b
  have h2 := h a.reverse b.reverse
  rw [List.reverse_reverse, List.reverse_reverse] at h2
  omega
/-- one more line at the ends -/
theorem lcs_snoc (a b : List α) (x y : α) : lcs (a ++ [x]) (b ++ [y]) = if x = y then lcs a b + 1 else max (lcs a (b ++ [y])) (lcs (a ++ [x]) b) := by
  rw [← lcs_rev (a ++ [x]) (b ++ [y]), ← lcs_rev a b, ← lcs_rev a (b ++ [y]), ← lcs_rev (a ++ [x]) b]
  simp only [List.reverse_append, List.reverse_cons, List.reverse_nil, List.nil_append, List.singleton_append]
  exact lcs_cons x y _ _
/-- the table -/
def tabD (a b : List α) (i j : Nat) : Nat := lcs (a.drop i) (b.drop j)
theorem tabD_end (a b : List α) (j : Nat) : tabD a b a.length j = 0 := by unfold tabD; rw [List.drop_length, lcs_nil]
theorem tabD_end' (a b : List α) (i : Nat) : tabD a b i b.length = 0 := by unfold tabD; rw [List.drop_length, lcs_nil']
omit [DecidableEq α] in
theorem drop_at {a : List α} {i : Nat} {x : α} (h : a[i]? = some x) : a.drop i = x :: a.drop (i + 1) := by
  obtain ⟨h1, h2⟩ := List.getElem?_eq_some_iff.1 h
  rw [List.drop_eq_getElem_cons h1, h2]
theorem tabD_eq {a b : List α} {i j : Nat} {x : α} (hx : a[i]? = some x) (hy : b[j]? = some x) : tabD a b i j = tabD a b (i + 1) (j + 1) + 1 := by
  unfold tabD; rw [drop_at hx, drop_at hy, lcs_cons, if_pos rfl]
theorem tabD_ne {a b : List α} {i j : Nat} {x y : α} (hx : a[i]? = some x) (hy : b[j]? = some y) (h : x ≠ y) : tabD a b i j = max (tabD a b (i + 1) j) (tabD a b i (j + 1)) := by
  unfold tabD; rw [drop_at hx, drop_at hy, lcs_cons, if_neg h, ← drop_at hx, ← drop_at hy]
theorem tabD_le1 {a b : List α} {i j : Nat} {y : α} (hy : b[j]? = some y) : tabD a b (i + 1) j ≤ tabD a b (i + 1) (j + 1) + 1 := by
  unfold tabD; rw [drop_at hy]; exact lcs_right y _ _
theorem tabD_le2 {a b : List α} {i j : Nat} {x : α} (hx : a[i]? = some x) : tabD a b i (j + 1) ≤ tabD a b (i + 1) (j + 1) + 1 := by
  unfold tabD; rw [drop_at hx]; exact lcs_left x _ _
theorem tabD_eq' {a b : List α} {i j : Nat} {x : α} (hx : a[i]? = some x) (hy : b[j]? = some x) : tabD a b i j = max (max (tabD a b (i + 1) j) (tabD a b i (j + 1))) (tabD a b (i + 1) (j + 1) + 1) := by
  rw [tabD_eq hx hy]; have := tabD_le1 (a := a) (i := i) hy; have := tabD_le2 (b := b) (j := j) hx; omega
theorem tabD_le (a b : List α) (i j : Nat) : tabD a b i j ≤ a.length := by
  unfold tabD; have := lcs_le_left (a.drop i) (b.drop j); rw [List.length_drop] at this; omega
/-- the lines that correspond: the number of the line of b (whose head has number j + 1), or 0 -/
def mvL : List α → List α → Nat → List Nat
  | [], _, _ => []
  | _ :: a, [], j => 0 :: mvL a [] j
  | x :: a, y :: b, j => if x = y then (j + 1) :: mvL a b (j + 1) else if lcs (x :: a) b ≤ lcs a (y :: b) then 0 :: mvL a (y :: b) j else mvL (x :: a) b (j + 1)
termination_by a b => a.length + b.length
theorem mvL_nil (b : List α) (j : Nat) : mvL [] b j = [] := by unfold mvL; rfl
theorem mvL_cons (x y : α) (a b : List α) (j : Nat) : mvL (x :: a) (y :: b) j = if x = y then (j + 1) :: mvL a b (j + 1) else if lcs (x :: a) b ≤ lcs a (y :: b) then 0 :: mvL a (y :: b) j else mvL (x :: a) b (j + 1) := by
  conv => lhs; unfold mvL
theorem mvL_nil' : ∀ (a : List α) (j : Nat), mvL a [] j = List.replicate a.length 0
  | [], j => by rw [mvL_nil]; rfl
  | x :: a, j => by unfold mvL; rw [mvL_nil' a j]; rfl
theorem mvL_len : ∀ (a b : List α) (j : Nat), (mvL a b j).length = a.length
  | [], b, j => by rw [mvL_nil]; rfl
  | x :: a, [], j => by rw [mvL_nil', List.length_replicate]
  | x :: a, y :: b, j => by
    rw [mvL_cons]
    split
    · simp [mvL_len a b]
    · split
      · simp [mvL_len a (y :: b)]
      · exact mvL_len (x :: a) b (j + 1)
termination_by a b => a.length + b.length
/-- how a walk at (i, j) goes on -/
def mvT (a b : List α) (i j : Nat) : List Nat := mvL (a.drop i) (b.drop j) j
theorem mvT_eq {a b : List α} {i j : Nat} {x : α} (hx : a[i]? = some x) (hy : b[j]? = some x) : mvT a b i j = (j + 1) :: mvT a b (i + 1) (j + 1) := by
  unfold mvT; rw [drop_at hx, drop_at hy, mvL_cons, if_pos rfl]
theorem mvT_down {a b : List α} {i j : Nat} {x y : α} (hx : a[i]? = some x) (hy : b[j]? = some y) (h : x ≠ y) (hl : tabD a b i (j + 1) ≤ tabD a b (i + 1) j) : mvT a b i j = 0 :: mvT a b (i + 1) j := by
  unfold mvT; unfold tabD at hl
  rw [drop_at hx, drop_at hy, mvL_cons, if_neg h, ← drop_at hx, ← drop_at hy, if_pos hl]
theorem mvT_right {a b : List α} {i j : Nat} {x y : α} (hx : a[i]? = some x) (hy : b[j]? = some y) (h : x ≠ y) (hl : ¬ tabD a b i (j + 1) ≤ tabD a b (i + 1) j) : mvT a b i j = mvT a b i (j + 1) := by
  unfold mvT; unfold tabD at hl
  rw [drop_at hx, drop_at hy, mvL_cons, if_neg h, ← drop_at hx, ← drop_at hy, if_neg hl]
theorem mvT_end (a b : List α) (i : Nat) : mvT a b i b.length = List.replicate (a.length - i) 0 := by
  unfold mvT; rw [List.drop_length, mvL_nil', List.length_drop]
theorem mvT_end' (a b : List α) (j : Nat) : mvT a b a.length j = [] := by
  unfold mvT; rw [List.drop_length, mvL_nil]
/-- the lines that correspond -/
def moveD (a b : List α) : List Nat := mvL a b 0
theorem moveD_len (a b : List α) : (moveD a b).length = a.length := mvL_len _ _ _
/-- as many as there can be -/
theorem mvL_count : ∀ (a b : List α) (j : Nat), ((mvL a b j).filter (fun m => m != 0)).length = lcs a b
  | [], b, j => by rw [mvL_nil, lcs_nil]; rfl
  | x :: a, [], j => by
    rw [mvL_nil', lcs_nil']
    have : ∀ n, (List.replicate n 0).filter (fun m : Nat => m != 0) = [] := fun n => by
      rw [List.filter_eq_nil_iff]; intro m hm; simp [List.eq_of_mem_replicate hm]
    rw [this]; rfl
  | x :: a, y :: b, j => by
    rw [mvL_cons, lcs_cons]
    by_cases h : x = y
    · rw [if_pos h, if_pos h, List.filter_cons, if_pos (by simp), List.length_cons, mvL_count a b]
    · rw [if_neg h, if_neg h]
      by_cases hl : lcs (x :: a) b ≤ lcs a (y :: b)
      · rw [if_pos hl, List.filter_cons, if_neg (by simp), mvL_count a (y :: b)]; omega
      · rw [if_neg hl, mvL_count (x :: a) b]; omega
termination_by a b => a.length + b.length
/-- equal and in order: m: what is left of the answer, x: of the lines, last: the last line that corresponds -/
def goodM (y : List α) : Nat → List Nat → List α → Prop
  | _, [], _ => True
  | _, _ :: _, [] => False
  | last, m :: ms, x :: xs => (m = 0 ∧ goodM y last ms xs) ∨ (last < m ∧ m ≤ y.length ∧ y[m - 1]? = some x ∧ goodM y m ms xs)
omit [DecidableEq α] in
theorem goodM_mono {y : List α} : ∀ {ms : List Nat} {xs : List α} {l l' : Nat}, l' ≤ l → goodM y l ms xs → goodM y l' ms xs
  | [], _, _, _, _, _ => trivial
  | m :: ms, [], _, _, _, h => h
  | m :: ms, x :: xs, l, l', hl, h => by
    rcases h with ⟨h1, h2⟩ | ⟨h1, h2⟩
    · exact .inl ⟨h1, goodM_mono hl h2⟩
    · exact .inr ⟨by omega, h2⟩
theorem mvL_good (y0 : List α) : ∀ (a b : List α) (j : Nat), b = y0.drop j → goodM y0 j (mvL a b j) a
  | [], b, j, _ => by rw [mvL_nil]; trivial
  | x :: a, [], j, hb => by
    unfold mvL
    exact .inl ⟨rfl, mvL_good y0 a [] j hb⟩
  | x :: a, y :: b, j, hb => by
    have hj : y0[j]? = some y := by
      have : (y0.drop j)[0]? = some y := by rw [← hb]; rfl
      rw [List.getElem?_drop] at this; simpa using this
    have hb' : b = y0.drop (j + 1) := by
      have := drop_at hj; rw [← hb] at this; injection this
    have hjl := (List.getElem?_eq_some_iff.1 hj).1
    rw [mvL_cons]
    by_cases h : x = y
    · rw [if_pos h]; subst h
      exact .inr ⟨by omega, by omega, by simpa using hj, mvL_good y0 a b (j + 1) hb'⟩
    · rw [if_neg h]
      by_cases hl : lcs (x :: a) b ≤ lcs a (y :: b)
      · rw [if_pos hl]; exact .inl ⟨rfl, mvL_good y0 a (y :: b) j hb⟩
      · rw [if_neg hl]; exact goodM_mono (by omega) (mvL_good y0 (x :: a) b (j + 1) hb')
termination_by a b => a.length + b.length
theorem moveD_good (a b : List α) : goodM b 0 (moveD a b) a := mvL_good b a b 0 rfl
theorem moveD_count (a b : List α) : ((moveD a b).filter (fun m => m != 0)).length = lcs a b := mvL_count a b 0
/-- the lines as they are stand behind one another -/
theorem mvL_self : ∀ (a r : List α) (j : Nat), mvL a (a ++ r) j = (List.range' (j + 1) a.length)
  | [], r, j => by rw [mvL_nil]; rfl
  | x :: a, r, j => by
    rw [List.cons_append, mvL_cons, if_pos rfl, mvL_self a r (j + 1), List.length_cons, List.range'_succ]
theorem moveD_self (a : List α) : moveD a a = List.range' 1 a.length := by
  have := mvL_self a [] 0
  rw [List.append_nil] at this; exact this
/-- lines that are not among them are passed over -/
theorem mvL_shift (z : α) (a r : List α) (hz : z ∉ a) (ha : a ≠ []) : ∀ (k j : Nat), mvL a (List.replicate k z ++ (a ++ r)) j = List.range' (j + k + 1) a.length
  | 0, j => by simpa using mvL_self a r j
  | k + 1, j => by
    cases a with
    | nil => exact absurd rfl ha
    | cons x a =>
      rw [List.replicate_succ, List.cons_append, mvL_cons, if_neg (by intro h; subst h; exact hz List.mem_cons_self), if_neg ?_, mvL_shift z (x :: a) r hz ha k (j + 1)]
      · congr 1; omega
      · have h1 : (x :: a).length ≤ lcs (x :: a) (List.replicate k z ++ (x :: a ++ r)) := lcs_max _ _ _ (List.Sublist.refl _) ((List.sublist_append_left _ _).trans (List.sublist_append_right _ _))
        have h2 := lcs_le_left a (z :: (List.replicate k z ++ (x :: a ++ r)))
        simp only [List.length_cons] at h1; omega
theorem moveD_shift (z : α) (a r : List α) (hz : z ∉ a) (ha : a ≠ []) (k : Nat) : moveD a (List.replicate k z ++ (a ++ r)) = List.range' (k + 1) a.length := by
  have := mvL_shift z a r hz ha k 0
  rw [Nat.zero_add] at this; exact this
end
/-- the line that corresponds to a line, or to the next one for which there is one -/
def firstN : List Nat → Nat
  | [] => 0
  | m :: l => if m = 0 then firstN l else m
def followD (l : List Nat) (line : Int) : Nat := if line < 1 then 0 else firstN (l.drop (line - 1).toNat)
theorem cutL_app : ∀ (l cur r : List UInt8), (∀ c ∈ l, c ≠ 10) → cutL cur (l ++ r) = cutL (cur ++ l) r
  | [], cur, r, _ => by simp
  | c :: l, cur, r, h => by
    rw [List.cons_append, cutL, if_neg (h c List.mem_cons_self), cutL_app l (cur ++ [c]) r (fun d hd => h d (List.mem_cons_of_mem _ hd))]
    simp
theorem cutL_ne (l cur : List UInt8) : cutL cur l ≠ [] := by
  induction l generalizing cur with
  | nil => simp [cutL]
  | cons c l ih => rw [cutL]; split; simp; exact ih _
theorem linesL_ne (l : List UInt8) : linesL l ≠ [] := cutL_ne l []
theorem cutL_len : ∀ (l cur : List UInt8), (cutL cur l).length = l.count 10 + 1
  | [], cur => rfl
  | c :: l, cur => by
    rw [cutL, List.count_cons]
    split
    · rename_i h; subst h; simp [cutL_len l []]
    · rename_i h; rw [cutL_len l (cur ++ [c])]; simp [h]
theorem linesL_len (l : List UInt8) : (linesL l).length = l.count 10 + 1 := cutL_len l []
theorem linesL_line (l r : List UInt8) (h : ∀ c ∈ l, c ≠ 10) : linesL (l ++ 10 :: r) = l :: linesL r := by
  unfold linesL
  rw [cutL_app l [] _ h, cutL, if_pos rfl]; rfl

/-! the texts of the law -/
theorem cutL_line (cur l r : List UInt8) (h : ∀ c ∈ l, c ≠ 10) : cutL cur (l ++ 10 :: r) = (cur ++ l) :: cutL [] r := by
  rw [cutL_app l cur _ h, cutL, if_pos rfl]
/-- lines of one sign each -/
theorem linesL_flat {α : Type} (f : α → UInt8) (r : List UInt8) : ∀ (l : List α), (∀ x ∈ l, f x ≠ 10) → linesL (l.flatMap (fun x => [f x, 10]) ++ r) = l.map (fun x => [f x]) ++ linesL r
  | [], _ => rfl
  | x :: l, h => by
    have e : (x :: l).flatMap (fun x => [f x, 10]) ++ r = [f x] ++ 10 :: (l.flatMap (fun x => [f x, 10]) ++ r) := by simp
    rw [e, linesL_line [f x] _ (by intro c hc; simp at hc; subst hc; exact h x List.mem_cons_self), linesL_flat f r l fun y hy => h y (List.mem_cons_of_mem _ hy)]
    rfl
def newL : List UInt8 := [110, 101, 119]
def lateL : List UInt8 := [108, 97, 116, 101]
def news (k : Nat) : List UInt8 := (List.replicate k (newL ++ [10])).flatten
def lates (k : Nat) : List UInt8 := (List.replicate k (10 :: lateL)).flatten
theorem linesL_news (r : List UInt8) : ∀ k, linesL (news k ++ r) = List.replicate k newL ++ linesL r
  | 0 => rfl
  | k + 1 => by
    have e : news (k + 1) ++ r = newL ++ 10 :: (news k ++ r) := by unfold news; rw [List.replicate_succ, List.flatten_cons]; simp
    rw [e, linesL_line newL _ (by decide), linesL_news r k]; rfl
theorem cutL_lates : ∀ (k : Nat) (cur : List UInt8), cutL cur (lates k) = cur :: List.replicate k lateL
  | 0, cur => rfl
  | k + 1, cur => by
    have e : lates (k + 1) = [] ++ 10 :: (lateL ++ lates k) := by unfold lates; rw [List.replicate_succ, List.flatten_cons]; simp
    rw [e, cutL_line cur [] _ (by simp), List.append_nil, cutL_app lateL [] _ (by decide), List.nil_append, cutL_lates k lateL]; rfl
theorem news_succ (k : Nat) : news (k + 1) = news k ++ (newL ++ [10]) := by unfold news; rw [List.replicate_succ', List.flatten_append]; simp
theorem lates_succ (k : Nat) : lates (k + 1) = lates k ++ (10 :: lateL) := by unfold lates; rw [List.replicate_succ', List.flatten_append]; simp
/-- lines put ahead of a text of lines of one sign, and behind it -/
theorem shift_lines {α : Type} (f : α → UInt8) (l : List α) (h : ∀ x ∈ l, f x ≠ 10) (k m : Nat) : linesL (news k ++ l.flatMap (fun x => [f x, 10]) ++ lates m) = List.replicate k newL ++ ((l.map (fun x => [f x]) ++ [[]]) ++ List.replicate m lateL) := by
  rw [List.append_assoc, linesL_news, linesL_flat f _ l h]
  have : linesL (lates m) = [] :: List.replicate m lateL := cutL_lates m []
  rw [this]; simp
theorem flat_lines {α : Type} (f : α → UInt8) (l : List α) (h : ∀ x ∈ l, f x ≠ 10) : linesL (l.flatMap (fun x => [f x, 10])) = l.map (fun x => [f x]) ++ [[]] := by
  have := linesL_flat f [] l h
  rw [List.append_nil] at this; exact this
theorem shift_move {α : Type} (f : α → UInt8) (l : List α) (h : ∀ x ∈ l, f x ≠ 10) (k m : Nat) : moveD (linesL (l.flatMap (fun x => [f x, 10]))) (linesL (news k ++ l.flatMap (fun x => [f x, 10]) ++ lates m)) = List.range' (k + 1) (l.length + 1) := by
  rw [shift_lines f l h, flat_lines f l h, moveD_shift]
  · simp
  · intro q
    rcases List.mem_append.1 q with q | q
    · obtain ⟨x, _, e⟩ := List.mem_map.1 q; simp [newL] at e
    · simp [newL] at q
  · simp
theorem firstN_range (k n j : Nat) (h : j < n) : firstN ((List.range' (k + 1) n).drop j) = k + 1 + j := by
  have : (List.range' (k + 1) n).drop j = (k + 1 + j) :: (List.range' (k + 1) n).drop (j + 1) := by
    rw [List.drop_eq_getElem_cons (by simpa using h)]
    congr 1
    simp [List.getElem_range']
  rw [this, firstN, if_neg (by omega)]
end Go.BK
namespace Go.PX
open Go.RowKit Go.SX
theorem key_of_look : ∀ {H : Heap} {id : Nat} {o : PO}, hlook H id = some o → (keysH H).any (Nat.beq id) = true ∧ ∃ x ∈ H, x.2 = o
  | [], _, _, h => by cases h
  | x :: H, id, o, h => by
    simp only [hlook] at h
    simp only [keysH, List.any_cons, Bool.or_eq_true]
    cases hb : Nat.beq x.1 id with
    | true =>
      rw [hb] at h; simp only [cond_true, Option.some.injEq] at h
      exact ⟨.inl (by rw [Nat.eq_of_beq_eq_true hb]; exact Nat.beq_refl _), x, List.mem_cons_self .., h⟩
    | false =>
      rw [hb] at h; simp only [cond_false] at h
      obtain ⟨h1, y, hy, h2⟩ := key_of_look h
      exact ⟨.inr h1, y, List.mem_cons_of_mem _ hy, h2⟩
theorem look_of_key : ∀ {H : Heap} {id : Nat}, (keysH H).any (Nat.beq id) = true → hlook H id ≠ none
  | [], _, h => by cases h
  | x :: H, id, h => by
    simp only [keysH, List.any_cons, Bool.or_eq_true] at h
    simp only [hlook]
    cases hb : Nat.beq x.1 id with
    | true => simp
    | false =>
      simp only [cond_false]
      rcases h with h | h
      · rw [Nat.eq_of_beq_eq_true h, Nat.beq_refl] at hb; cases hb
      · exact look_of_key h
theorem con_anyH {P : Program} {f : FuncId} {args : List PV} {H : Heap} {lo top lo' top' : Nat} {r : PV} {U : Upd} (h : Con P f args H lo top r U)
    (hlo : (keysH H).all (fun id => Nat.blt id lo || Nat.ble top id) = true) (hk : ∀ id o, ulook U id = some (some o) → (keysH H).any (Nat.beq id) = true ∧ idsO (keysH H) o = true)
    (ha : idsInL (keysH H) args = true) (ho : H.all (fun x => idsO (keysH H) x.2) = true) (hr : idsIn (keysH H) r = true) : Con P f args H lo' top' r U := by
  intro w σ Z vs hH hv hfr
  obtain ⟨σ1, e1⟩ : ∃ σ1 : Nm, ∀ id, σ1 id = bif (keysH H).any (Nat.beq id) then σ id else none := ⟨_, fun _ => rfl⟩
  have e2 : ∀ id, (keysH H).any (Nat.beq id) = true → σ1 id = σ id := fun id q => by rw [e1, q]; rfl
  have e3 : ∀ id x, σ1 id = some x → σ id = some x := fun id x q => by
    rw [e1] at q
    cases hb : (keysH H).any (Nat.beq id) with
    | true => rwa [hb] at q
    | false => rw [hb] at q; cases q
  have hS : ∀ id, (keysH H).any (Nat.beq id) = true → ∀ x, σ id = some x → σ1 id = some x := fun id q x hx => by rw [e2 id q]; exact hx
  have h0 : HR σ1 Z w H := by
    refine ⟨fun id o q => ?_, fun id id' o o' b c c' q q' k k' => hH.inj id id' o o' b c c' q q' (e3 _ _ k) (e3 _ _ k'), fun id o b c q k => hH.off id o b c q (e3 _ _ k), hH.zlt⟩
    obtain ⟨k1, x, hx, rfl⟩ := key_of_look q
    exact OR.restrict hS (e2 id k1) (hH.at_ id _ q) (List.all_eq_true.1 ho x hx)
  refine (h w σ1 Z vs h0 (hv.restrict hS ha) (fun id q q' => ?_)).mono fun e w' ⟨v, σ', Z', he, h1, h2⟩ => ?_
  · rw [e1]
    cases hb : (keysH H).any (Nat.beq id) with
    | false => rfl
    | true =>
      obtain ⟨j, hj, hjb⟩ := List.any_eq_true.1 hb
      have := List.all_eq_true.1 hlo j hj
      rw [← Nat.eq_of_beq_eq_true hjb] at this
      simp only [Bool.or_eq_true, Nat.blt_eq, Nat.ble_eq] at this
      omega
  have e4 : ∀ id, (keysH H).any (Nat.beq id) = true → σ' id = σ id := fun id q => by
    cases hs : σ1 id with
    | none => rw [h2.dom id hs (.inr (look_of_key q)), ← e2 id q, hs]
    | some x => rw [h2.ext id x hs, ← e2 id q, hs]
  have hS' : ∀ id, (keysH H).any (Nat.beq id) = true → ∀ x, σ' id = some x → σ id = some x := fun id q x hx => by rw [← e4 id q]; exact hx
  refine ⟨v, σ, Z', he, h1.restrict hS' hr, Ext.refl σ, fun id q _ => q, h2.zmono, fun b q => ?_, h2.chg.mono fun b _ ⟨id, o, c, q, q1, q2⟩ => ⟨id, o, c, q, q1, e3 _ _ q2⟩, fun id o q => ?_, fun id o b c q k => ?_, fun id id' o o' b c c' q q' k k' => ?_⟩
  · rcases h2.znew b q with q | q | ⟨id, o, c, q, q1, q2⟩
    · exact .inl q
    · exact .inr (.inl q)
    · exact .inr (.inr ⟨id, o, c, q, q1, e3 _ _ q2⟩)
  · obtain ⟨k1, k2⟩ := hk id o q
    exact OR.restrict hS' (e4 id k1).symm (h2.objs id o q) k2
  · obtain ⟨k1, _⟩ := hk id o q
    obtain ⟨a1, a2⟩ := h2.off id o b c q (by rw [e4 id k1]; exact k)
    refine ⟨a1, a2.imp (fun q => q) fun ⟨i, o', c', p1, p2, p3⟩ => ⟨i, o', c', p1, p2, e3 _ _ p3⟩⟩
  · exact h2.inj id id' o o' b c c' q q' (by rw [e4 id (hk id o q).1]; exact k) (by rw [e4 id' (hk id' o' q').1]; exact k')
end Go.PX
namespace Go.PX
open Go.RowKit Go.SX
def okU2 (ρ : List (Nat × Nat)) (U : Upd) : Upd → List (Option (Option PO) × Option (Option PO))
  | [] => []
  | x :: U' => (ulook U (rn ρ x.1), some (x.2.map (renO ρ))) :: okU2 ρ U U'
theorem okU2_spec {ρ : List (Nat × Nat)} {U : Upd} : ∀ {U' : Upd}, AllEq (okU2 ρ U U') → ∀ {id : Nat} {q : Option PO}, ulook U' id = some q → ulook U (rn ρ id) = some (q.map (renO ρ)) ∧ id ∈ U'.map (·.1)
  | [], _, id, q, h => by simp [ulook] at h
  | x :: U', he, id, q, h => by
    simp only [okU2, AllEq] at he
    simp only [ulook] at h
    cases hb : Nat.beq x.1 id with
    | true => rw [hb] at h; simp only [cond_true, Option.some.injEq] at h; subst h; obtain rfl := Nat.eq_of_beq_eq_true hb; exact ⟨he.1, by simp⟩
    | false => rw [hb] at h; obtain ⟨h1, h2⟩ := okU2_spec he.2 h; exact ⟨h1, List.mem_cons_of_mem _ h2⟩
def asB (ρ ρi : List (Nat × Nat)) (H H' : Heap) (U U' : Upd) (lo top lo' top' : Nat) : Bool :=
  (keysH H').all (fun id => (keysH H).any (Nat.beq (rn ρ id)) && Nat.beq (rn ρi (rn ρ id)) id) &&
  (keysH H).all (fun id => Nat.beq (rn ρ (rn ρi id)) id && (Nat.blt id lo || Nat.ble top id) && ((ulook U id).isNone || (ulook U' (rn ρi id)).isSome)) &&
  (U'.map (·.1)).all (fun id => Nat.beq (rn ρi (rn ρ id)) id && ((keysH H').any (Nat.beq id) || Nat.ble lo' id && Nat.blt id top'))
theorem hlook_of {H : Heap} {id : Nat} (h : id ∈ keysH H) : ∃ o, hlook H id = some o := by
  cases hq : hlook H id with
  | none => exact absurd hq (keysH_mem h)
  | some o => exact ⟨o, rfl⟩
theorem con_as {P : Program} {f : FuncId} {args args' : List PV} {H H' : Heap} {lo top lo' top' : Nat} {r r' : PV} {U U' : Upd} (ρ ρi : List (Nat × Nat)) (h : Con P f args H lo top r U) (ha : renL ρi args = args') (hH : (okH ρi H' H).map (·.1) = (okH ρi H' H).map (·.2)) (hr : ren ρ r' = r)
    (hU : (okU2 ρ U U').map (·.1) = (okU2 ρ U U').map (·.2)) (hi : (idsInL (keysH H) args && idsH (keysH H) H && idsIn (keysH H' ++ keysU U') r' && idsU (keysH H' ++ keysU U') U') = true) (hb : asB ρ ρi H H' U U' lo top lo' top' = true) : Con P f args' H' lo' top' r' U' := by
  classical
  intro w σ' Z vs hH' hv hfr
  subst ha hr
  simp only [Bool.and_eq_true] at hi
  obtain ⟨⟨⟨i1, i2⟩, i3⟩, i4⟩ := hi
  unfold asB at hb
  simp only [Bool.and_eq_true, List.all_eq_true, Nat.beq_eq, Bool.or_eq_true, Nat.blt_eq, Nat.ble_eq, List.any_eq_true] at hb
  obtain ⟨⟨b1, b2⟩, b3⟩ := hb
  have hat : ∀ {id : Nat} {o : PO}, hlook H id = some o → hlook H' (rn ρi id) = some (renO ρi o) := okH_spec (allEq_of_map hH)
  have hup : ∀ {id : Nat} {q : Option PO}, ulook U' id = some q → ulook U (rn ρ id) = some (q.map (renO ρ)) ∧ id ∈ U'.map (·.1) := okU2_spec (allEq_of_map hU)
  have k1 : ∀ id ∈ keysH H', rn ρ id ∈ keysH H ∧ rn ρi (rn ρ id) = id := fun id hid => by
    obtain ⟨⟨x, q1, q2⟩, q3⟩ := b1 id hid
    exact ⟨q2 ▸ q1, q3⟩
  obtain ⟨σ, hσ⟩ : ∃ σ : Nm, σ = fun id => if id ∈ keysH H then σ' (rn ρi id) else none := ⟨_, rfl⟩
  have s1 : ∀ id ∈ keysH H, σ id = σ' (rn ρi id) := fun id hid => by rw [hσ]; exact if_pos hid
  have s2 : ∀ id, id ∉ keysH H → σ id = none := fun id hid => by rw [hσ]; exact if_neg hid
  have s3 : ∀ id x, σ id = some x → id ∈ keysH H ∧ σ' (rn ρi id) = some x := fun id x q => by
    by_cases hid : id ∈ keysH H
    · exact ⟨hid, by rw [← s1 id hid]; exact q⟩
    · rw [s2 id hid] at q; cases q
  have hS : ∀ id, (keysH H).any (Nat.beq id) = true → σ id = σ' (rn ρi id) := fun id q => s1 id (mem_any q)
  have h0 : HR σ Z w H := by
    refine ⟨fun id o q => ?_, fun id id' o o' b c c' q q' p p' => ?_, fun id o b c q p => hH'.off _ _ b c (hat q) (s3 id _ p).2, hH'.zlt⟩
    · exact OR.ren hS (s1 id (hlook_key q)) (hH'.at_ _ _ (hat q)) (idsH_spec i2 q)
    · have e := hH'.inj _ _ _ _ b c c' (hat q) (hat q') (s3 id _ p).2 (s3 id' _ p').2
      have e1 := (b2 id (hlook_key q)).1.1
      have e2 := (b2 id' (hlook_key q')).1.1
      rw [← e1, e, e2]
  refine (h w σ Z vs h0 (hv.ren hS i1) (fun id q q' => ?_)).mono fun e w' ⟨v, σ1, Z', he, h1, h2⟩ => ?_
  · by_cases hid : id ∈ keysH H
    · rcases (b2 id hid).1.2 with q2 | q2 <;> omega
    · exact s2 id hid
  obtain ⟨σ2, hσ2⟩ : ∃ σ2 : Nm, σ2 = fun id => if id ∈ U'.map (·.1) ∧ id ∉ keysH H' then σ1 (rn ρ id) else σ' id := ⟨_, rfl⟩
  have t0 : ∀ id ∈ U'.map (·.1), id ∉ keysH H' → σ' id = none ∧ σ2 id = σ1 (rn ρ id) := fun id hid hn => by
    refine ⟨?_, by rw [hσ2]; exact if_pos ⟨hid, hn⟩⟩
    rcases (b3 id hid).2 with ⟨x, q1, q2⟩ | ⟨q1, q2⟩
    · exact absurd (q2 ▸ q1) hn
    · exact hfr id q1 q2
  have t1 : ∀ id, id ∈ keysH H' → σ2 id = σ' id ∧ σ1 (rn ρ id) = σ' id := fun id hid => by
    refine ⟨by rw [hσ2]; exact if_neg fun q => q.2 hid, ?_⟩
    obtain ⟨q1, q2⟩ := k1 id hid
    have q3 := s1 _ q1
    rw [q2] at q3
    cases hs : σ (rn ρ id) with
    | none => rw [h2.dom _ hs (.inr (keysH_mem q1)), ← q3, hs]
    | some x => rw [h2.ext _ x hs, ← q3, hs]
  have t2 : ∀ id, (id ∈ keysH H' ∨ id ∈ U'.map (·.1)) → σ2 id = σ1 (rn ρ id) ∧ rn ρi (rn ρ id) = id := fun id hid => by
    by_cases hk : id ∈ keysH H'
    · obtain ⟨q1, q2⟩ := t1 id hk; exact ⟨q1.trans q2.symm, (k1 id hk).2⟩
    · rcases hid with hid | hid
      · exact absurd hid hk
      · exact ⟨(t0 id hid hk).2, (b3 id hid).1⟩
  have hS2 : ∀ id, (keysH H' ++ keysU U').any (Nat.beq id) = true → σ2 id = σ1 (rn ρ id) := fun id q => by
    rcases List.mem_append.1 (mem_any q) with q | q
    · exact (t2 id (.inl q)).1
    · exact (t2 id (.inr (List.mem_filter.1 q).1)).1
  have back : ∀ i o' b c', ulook U i ≠ none → hlook H i = some o' → σ i = some (b, c') → ∃ i o c, ulook U' i ≠ none ∧ hlook H' i = some o ∧ σ' i = some (b, c) := fun i o' b c' p1 p2 p3 => by
    have hk := hlook_key p2
    refine ⟨rn ρi i, _, c', fun q => ?_, hat p2, (s3 i _ p3).2⟩
    rcases (b2 i hk).2 with p | p
    · cases hu : ulook U i with
      | none => exact p1 hu
      | some z => rw [hu] at p; cases p
    · rw [q] at p; cases p
  refine ⟨v, σ2, Z', he, h1.ren hS2 r' rfl i3, fun id x hx => ?_, fun id q hq => ?_, h2.zmono, fun b q => ?_, h2.chg.mono fun b _ ⟨i, o', c', p1, p2, p3⟩ => back i o' b c' p1 p2 p3, fun id o q => ?_, fun id o b c q k => ?_, fun id id' o o' b c c' q q' k k' => ?_⟩
  · rw [hσ2]
    show (if _ then _ else _) = _
    rw [if_neg fun q => by rw [(t0 id q.1 q.2).1] at hx; cases hx]; exact hx
  · rw [hσ2]
    show (if _ then _ else _) = _
    split
    · rename_i q1
      rcases hq with hq | hq
      · exfalso
        obtain ⟨⟨x, y⟩, hm, rfl⟩ := List.mem_map.1 q1.1
        have : ∀ {U : Upd} {z : Nat × Option PO}, z ∈ U → ulook U z.1 ≠ none := fun {U z} hz => by
          clear hq hm q1
          induction U with
          | nil => cases hz
          | cons u U ih =>
            simp only [ulook]
            cases hb : Nat.beq u.1 z.1 with
            | true => simp
            | false =>
              rcases List.mem_cons.1 hz with rfl | hz
              · simp at hb
              · exact ih hz
        exact this hm hq
      · exfalso
        cases hz : hlook H' id with
        | none => exact hq hz
        | some o => exact q1.2 (hlook_key hz)
    · exact q
  · rcases h2.znew b q with q | q | ⟨i, o', c', p1, p2, p3⟩
    · exact .inl q
    · exact .inr (.inl q)
    · exact .inr (.inr (back i o' b c' p1 p2 p3))
  · obtain ⟨u1, u2⟩ := hup q
    exact OR.ren hS2 (t2 id (.inr u2)).1 (h2.objs _ _ u1) (idsU_spec i4 q)
  · obtain ⟨u1, u2⟩ := hup q
    rw [(t2 id (.inr u2)).1] at k
    obtain ⟨a1, a2⟩ := h2.off _ _ b c u1 k
    refine ⟨a1, a2.imp (fun q => q) fun ⟨i, o', c', p1, p2, p3⟩ => back i o' b c' p1 p2 p3⟩
  · obtain ⟨u1, u2⟩ := hup q
    obtain ⟨u1', u2'⟩ := hup q'
    obtain ⟨k3, k4⟩ := t2 id (.inr u2)
    obtain ⟨k3', k4'⟩ := t2 id' (.inr u2')
    rw [k3] at k
    rw [k3'] at k'
    have := h2.inj _ _ _ _ b c c' u1 u1' k k'
    rw [← k4, this, k4']
end Go.PX
namespace Go.PX
open Go.RowKit Go.SX
theorem seq_cut {P : Program} {Q : Exit → Act → World → Prop} {x y : Code} {a : Act} {w : World} {E : Env} {N nx : Nat} {T : List Ent} {H : Heap} (hx : x.wp P (Exit.then (fun a w => Sat E N T H nx a w) Q) a w) (hy : ∀ a w, Sat E N T H nx a w → y.wp P Q a w) : (Code.seq x y).wp P Q a w :=
  wp_seq (wp_mono hx fun e a w q => by cases e <;> first | exact hy a w q | exact q)
end Go.PX
namespace Go.Proofs.YtlaiafalilcgjaaGreatDoor
open Go.RowKit Go.PX
structure BrkD where
  id : Int
  ig : Int
  hi : Int
  th : Int
  ln : Int
  wh : List UInt8
  co : List UInt8
  on : Bool
  ad : List Int
structure DatD where
  kd : Int
  rc : Int
  kn : List Bool
  wo : List Int
def encI (x : Int) : List PV := [.sc (.int .i64 x)]
def encT (x : Bool) : List PV := [.sc (.bool x)]
def encK (b : BrkD) : List PV := [.sc (.int .i64 b.id), .sc (.int .i64 b.ig), .sc (.int .i64 b.hi), .sc (.int .i64 b.th), .sc (.int .i64 b.ln), .sc (sV b.wh), .sc (sV b.co), .sc (.bool b.on), .imm 1 (b.ad.map encI)]
def encD (d : DatD) : List PV := [.sc (.int .i64 d.kd), .sc (.int .i64 d.rc), .imm 1 (d.kn.map encT), .imm 1 (d.wo.map encI)]
/-- the condition is known to be 0 -/
def isF (d : DatD) : Bool := ((((d.kd == 1) && ((d.kn.length : Int) == 1)) && ((d.wo.length : Int) == 1)) && d.kn.headD false) && (d.wo.headD 0 == 0)
def hits (b : BrkD) : BrkD := { b with hi := IntKind.i64.wrap (b.hi + 1) }
def hitD (b : BrkD) (t : Int) (c : DatD) (f : Int) : BrkD × Bool :=
  bif ((b.th != (-1)) && (b.th != t)) then (b, false) else
  bif (((!(b.co == [])) && (f == 0)) && isF c) then (b, false) else
  bif ((!(b.co == [])) && (f != 0)) then (hits b, true) else
  bif decide (0 < b.ig) then ({ hits b with ig := IntKind.i64.wrap (b.ig - 1) }, false) else (hits b, true)
theorem head_at {α : Type} {l : List α} {d : α} (h : ((l.length : Int) == 1) = true) : l[0]? = some (l.headD d) := by
  cases l with
  | nil => simp at h
  | cons x l => rfl
theorem get_of_lt {α : Type} {l : List α} {k : Nat} (h : k < l.length) : ∃ x, l[k]? = some x := ⟨l[k], List.getElem?_eq_getElem h⟩
end Go.Proofs.YtlaiafalilcgjaaGreatDoor
