/- Proved: plain facts on lists of pages: where Add puts a page, and that pages stay in order. -/
import Derived.Test.YtgkenbjpmondeaaAdd
namespace Go.Proofs.Ytgkenbjpmondeaa
open Go.RowKit

def addF (rs : List Pg) (p : Pg) : List Pg := rs.takeWhile (fun q => decide (q.1 < p.1)) ++ [p] ++ rs.dropWhile (fun q => decide (q.1 < p.1))

theorem takeWhile_of {p : Pg → Bool} : ∀ (rs : List Pg) (k : Nat), k ≤ rs.length → (∀ j q, j < k → rs[j]? = some q → p q = true) → (∀ q, rs[k]? = some q → p q = false) → rs.takeWhile p = rs.take k ∧ rs.dropWhile p = rs.drop k
  | [], k, hk, _, _ => by
    obtain rfl : k = 0 := by simpa using hk
    simp
  | r :: rs, 0, _, _, h2 => by
    have := h2 r rfl
    simp [this]
  | r :: rs, k + 1, hk, h1, h2 => by
    have h0 := h1 0 r (by omega) rfl
    obtain ⟨e1, e2⟩ := takeWhile_of (p := p) rs k (by simpa using hk) (fun j q hj hq => h1 (j + 1) q (by omega) (by simpa using hq)) (fun q hq => h2 q (by simpa using hq))
    simp [h0, e1, e2]

theorem AddP.eq {rs out : List Pg} {p : Pg} (h : AddP rs p out) : out = addF rs p := by
  obtain ⟨k, hk, h1, h2, rfl⟩ := h
  obtain ⟨e1, e2⟩ := takeWhile_of (p := fun q => decide (q.1 < p.1)) rs k hk (fun j q hj hq => by simpa using h1 j q.1 q.2 hj hq) (fun q hq => by simpa using h2 q.1 q.2 hq)
  unfold addF
  rw [e1, e2]

def GoodL (ps : List Pg) : Prop := ps.length ≤ 50000 ∧ (∀ p ∈ ps, pageB p = true) ∧ ps.Pairwise (fun a b => a.1 < b.1)
theorem pageB_iff {x : Int} {ws : List Int} : pageB (x, ws) = true ↔ 0 ≤ x ∧ x ≤ 1099511627776 ∧ x % 64 = 0 ∧ ws.length = 64 := by
  simp [pageB, and_assoc]
theorem GoodL.good {ps : List Pg} (h : GoodL ps) : Good ps := by
  refine ⟨h.1, fun j x ws hx => pageB_iff.1 (h.2.1 _ (List.mem_of_getElem? hx)), fun i j x y ws zs hij hx hy => ?_⟩
  obtain ⟨hi, e1⟩ := List.getElem?_eq_some_iff.1 hx
  obtain ⟨hj, e2⟩ := List.getElem?_eq_some_iff.1 hy
  have := List.pairwise_iff_getElem.1 h.2.2 i j hi hj hij
  rw [e1, e2] at this
  exact this
theorem Good.goodL {ps : List Pg} (h : Good ps) : GoodL ps := by
  refine ⟨h.1, fun p hp => ?_, List.pairwise_iff_getElem.2 fun i j hi hj hij => ?_⟩
  · obtain ⟨j, hj⟩ := List.mem_iff_getElem?.1 hp
    exact pageB_iff.2 (h.2.1 j p.1 p.2 hj)
  · exact h.2.2 i j _ _ _ _ hij (List.getElem?_eq_getElem hi) (List.getElem?_eq_getElem hj)

theorem goodL_fil {ps : List Pg} (h : GoodL ps) (b : Int) : GoodL (fil b ps) :=
  ⟨Nat.le_trans (fil_len b ps) h.1, fun p hp => h.2.1 p ((List.mem_filter.1 hp).1), h.2.2.filter _⟩
theorem addF_len (rs : List Pg) (p : Pg) : (addF rs p).length = rs.length + 1 := by
  have := congrArg List.length (List.takeWhile_append_dropWhile (p := fun q : Pg => decide (q.1 < p.1)) (l := rs))
  unfold addF
  simp only [List.length_append, List.length_singleton] at this ⊢
  omega
theorem goodL_addF {ps : List Pg} (h : GoodL ps) {p : Pg} (hp : pageB p = true) (hl : ps.length < 50000) : GoodL (addF (fil p.1 ps) p) := by
  have hf := goodL_fil h p.1
  have happ := List.takeWhile_append_dropWhile (p := fun q : Pg => decide (q.1 < p.1)) (l := fil p.1 ps)
  have hfl := fil_len p.1 ps
  have hA : ∀ a ∈ (fil p.1 ps).takeWhile (fun q => decide (q.1 < p.1)), a.1 < p.1 := fun a ha => by
    have := List.all_takeWhile (p := fun q : Pg => decide (q.1 < p.1)) (l := fil p.1 ps)
    rw [List.all_eq_true] at this
    simpa using this a ha
  have hpw : ((fil p.1 ps).takeWhile (fun q => decide (q.1 < p.1)) ++ (fil p.1 ps).dropWhile (fun q => decide (q.1 < p.1))).Pairwise (fun a b : Pg => a.1 < b.1) := by rw [happ]; exact hf.2.2
  obtain ⟨w1, w2, w3⟩ := List.pairwise_append.1 hpw
  have hne : ∀ b ∈ fil p.1 ps, b.1 ≠ p.1 := fun b hb => by
    have := (List.mem_filter.1 hb).2
    simpa using this
  have hB : ∀ b ∈ (fil p.1 ps).dropWhile (fun q => decide (q.1 < p.1)), p.1 < b.1 := by
    cases hd : (fil p.1 ps).dropWhile (fun q => decide (q.1 < p.1)) with
    | nil => simp
    | cons d ds =>
      have h0 : ¬ d.1 < p.1 := by
        have hnil : (fil p.1 ps).dropWhile (fun q => decide (q.1 < p.1)) ≠ [] := by rw [hd]; simp
        have := List.head_dropWhile_not (fun q : Pg => decide (q.1 < p.1)) hnil
        simp only [hd, List.head_cons] at this
        simpa using this
      have hdm : d ∈ fil p.1 ps := by
        rw [← happ, hd]; simp
      have hdn := hne d hdm
      rw [hd] at w2
      intro b hb
      rcases List.mem_cons.1 hb with rfl | hb
      · omega
      · have := (List.pairwise_cons.1 w2).1 b hb
        omega
  refine ⟨by rw [addF_len]; omega, fun q hq => ?_, ?_⟩
  · unfold addF at hq
    simp only [List.mem_append, List.mem_singleton] at hq
    rcases hq with (hq | rfl) | hq
    · exact hf.2.1 q (by rw [← happ]; exact List.mem_append.2 (.inl hq))
    · exact hp
    · exact hf.2.1 q (by rw [← happ]; exact List.mem_append.2 (.inr hq))
  · unfold addF
    rw [List.append_assoc, List.pairwise_append]
    refine ⟨w1, ?_, fun a ha b hb => ?_⟩
    · rw [List.singleton_append, List.pairwise_cons]
      exact ⟨hB, w2⟩
    · rw [List.singleton_append] at hb
      rcases List.mem_cons.1 hb with rfl | hb
      · exact hA a ha
      · exact w3 a ha b hb

/-- the page of a number -/
def numPage (x : Int) : Pg := (x % 12 * 64, (List.replicate 64 (0 : Int)).set (x % 7).toNat x)
def someStep (ps : List Pg) (x : Int) : List Pg := addF (fil (numPage x).1 ps) (numPage x)
def someL (l : List Int) : List Pg := (l.take 8).foldl someStep []
theorem numPage_ok (x : Int) : pageB (numPage x) = true := by
  unfold numPage
  rw [pageB_iff]
  refine ⟨by omega, by omega, by omega, by simp⟩
theorem someStep_good {ps : List Pg} {n : Nat} (h : GoodL ps) (hl : ps.length ≤ n) (hn : n < 50000) (x : Int) : GoodL (someStep ps x) ∧ (someStep ps x).length ≤ n + 1 := by
  refine ⟨goodL_addF h (numPage_ok x) (by omega), ?_⟩
  unfold someStep
  rw [addF_len]
  have := fil_len (numPage x).1 ps
  omega
theorem foldl_good : ∀ (l : List Int) (ps : List Pg) (n : Nat), GoodL ps → ps.length ≤ n → n + l.length < 50000 → GoodL (l.foldl someStep ps) ∧ (l.foldl someStep ps).length ≤ n + l.length
  | [], ps, n, h, hl, _ => ⟨h, by simpa using hl⟩
  | x :: l, ps, n, h, hl, hn => by
    obtain ⟨h1, h2⟩ := someStep_good h hl (by omega) x
    have := foldl_good l (someStep ps x) (n + 1) h1 h2 (by simp only [List.length_cons] at hn; omega)
    refine ⟨this.1, ?_⟩
    have h3 := this.2
    simp only [List.foldl_cons, List.length_cons]
    omega
theorem take_good (l : List Int) (k : Nat) (hk : k ≤ 8) : GoodL ((l.take k).foldl someStep []) ∧ ((l.take k).foldl someStep []).length ≤ 8 := by
  have hl : (l.take k).length ≤ 8 := by simp; omega
  have := foldl_good (l.take k) [] 0 ⟨by simp, by simp, by simp⟩ (by simp) (by omega)
  exact ⟨this.1, by have := this.2; omega⟩
theorem fold_snoc {l : List Int} {k : Nat} {x : Int} (h : l[k]? = some x) : (l.take (k + 1)).foldl someStep [] = someStep ((l.take k).foldl someStep []) x := by
  rw [← take_snoc h, List.foldl_append]; rfl
theorem GoodL.small {ps : List Pg} (h : GoodL ps) : Small ps := ⟨by have := h.1; omega, fun k x ws hx => by have := (h.good.2.1 k x ws hx).2.2.2; omega⟩
end Go.Proofs.Ytgkenbjpmondeaa
