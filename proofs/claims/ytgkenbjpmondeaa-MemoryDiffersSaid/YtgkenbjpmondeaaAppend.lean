/- Proved: what the built-in append gives where a whole slice of pages is appended to a row of pages of the call's own. -/
import Derived.Test.YtgkenbjpmondeaaWithout
namespace Go.Proofs.Ytgkenbjpmondeaa
open Go.RowKit

/-- a slice of pages, and the slices of their words -/
def PagesSrc (w : World) (v : Value) (qs : List Pg) (vs : List Value) : Prop :=
  vs.length = qs.length ∧ ∃ A cap, v = .slice A qs.length cap ∧ (A = none → cap = 0) ∧ ∀ (k : Nat) (x : Int) (ws : List Int), qs[k]? = some (x, ws) → ∃ b off u, A = some ⟨b, off, none⟩ ∧ vs[k]? = some u ∧ I64 x ∧
    w.cell? ⟨b, off + k * 2, none⟩ = some (.int .i64 x) ∧ w.cell? ⟨b, off + k * 2 + 1, none⟩ = some u ∧ IntsAt w u ws

def cellsOf : List Pg → List Value → List Value
  | (x, _) :: qs, u :: vs => .int .i64 x :: u :: cellsOf qs vs
  | _, _ => []
theorem cellsOf_len : ∀ (qs : List Pg) (vs : List Value), vs.length = qs.length → (cellsOf qs vs).length = qs.length * 2
  | [], [], _ => rfl
  | [], _ :: _, h => by simp at h
  | _ :: _, [], h => by simp at h
  | (x, ws) :: qs, u :: vs, h => by
    have := cellsOf_len qs vs (by simpa using h)
    simp only [cellsOf, List.length_cons, this]; omega
theorem cellsOf_get : ∀ (qs : List Pg) (vs : List Value) (k : Nat) (x : Int) (ws : List Int) (u : Value), qs[k]? = some (x, ws) → vs[k]? = some u → (cellsOf qs vs)[k * 2]? = some (.int .i64 x) ∧ (cellsOf qs vs)[k * 2 + 1]? = some u
  | [], _, k, x, ws, u, h, _ => by simp at h
  | _ :: _, [], k, x, ws, u, _, h => by simp at h
  | (y, zs) :: qs, v :: vs, 0, x, ws, u, h1, h2 => by
    simp at h1 h2
    obtain ⟨rfl, rfl⟩ := h1
    subst h2
    simp [cellsOf]
  | (y, zs) :: qs, v :: vs, k + 1, x, ws, u, h1, h2 => by
    have := cellsOf_get qs vs k x ws u (by simpa using h1) (by simpa using h2)
    rw [show (k + 1) * 2 = k * 2 + 1 + 1 by omega, show (k * 2 + 1 + 1 + 1) = (k * 2 + 1) + 1 + 1 by omega]
    simpa [cellsOf] using this
theorem cellsOf_inv (qs : List Pg) (vs : List Value) (hl : vs.length = qs.length) (j : Nat) (c : Value) (h : (cellsOf qs vs)[j]? = some c) :
    ∃ k x ws u, qs[k]? = some (x, ws) ∧ vs[k]? = some u ∧ ((j = k * 2 ∧ c = .int .i64 x) ∨ (j = k * 2 + 1 ∧ c = u)) := by
  have hj := (List.getElem?_eq_some_iff.1 h).1
  rw [cellsOf_len qs vs hl] at hj
  obtain ⟨⟨x, ws⟩, hx⟩ := get_of_lt (show j / 2 < qs.length by omega)
  obtain ⟨u, hu⟩ := get_of_lt (show j / 2 < vs.length by omega)
  have := cellsOf_get qs vs _ x ws u hx hu
  refine ⟨j / 2, x, ws, u, hx, hu, ?_⟩
  rcases Nat.mod_two_eq_zero_or_one j with h0 | h0
  · left
    have e : j / 2 * 2 = j := by omega
    rw [e, h] at this
    exact ⟨e.symm, by simpa using this.1⟩
  · right
    have e : j / 2 * 2 + 1 = j := by omega
    rw [e, h] at this
    exact ⟨e.symm, by simpa using this.2⟩

theorem run_app_pages (w : World) (ty : TypeId) (B : Nat) (v : Value) (ps : List Pg) (us : List Value) (hown : PagesRow w B v ps us)
    (s : Value) (qs : List Pg) (vs : List Value) (hs : PagesSrc w s qs vs) (hne : ∀ (k : Nat) (x : Int) (ws : List Int) (u : Value), qs[k]? = some (x, ws) → vs[k]? = some u → Off u ws v.ownBlock)
    (hlen : ps.length + qs.length ≤ 1000000000) (hB : B ≤ w.heap.size) :
    ∃ v' w', (Builtin.append_ #[22, 22] ty #[v, s]).run Try.prog w = .ok v' w' ∧ PagesRow w' B v' (ps ++ qs) (us ++ vs) ∧ w.grownBy w' v.ownBlock ∧ (v'.ownBlock = v.ownBlock ∨ v'.ownBlock = some w.heap.size) := by
  obtain ⟨i0, hi0, hz0, hz1, hz2⟩ := info_parts page_info
  obtain ⟨hvl, A, cap, rfl, hcap, hcell⟩ := hs
  have hown' := hown
  obtain ⟨h0, cs, ho, hcs⟩ := hown
  rcases A with _ | ad
  · have hq : qs = [] := by
      cases qs with
      | nil => rfl
      | cons q qs => obtain ⟨b, off, u, h, _⟩ := hcell 0 q.1 q.2 rfl; cases h
    subst hq
    obtain rfl := hcap rfl
    obtain rfl : vs = [] := List.eq_nil_of_length_eq_zero (by simpa using hvl)
    exact ⟨v, w, run_append_owned_none (P := Try.prog) (w := w) B 22 ty 31 i0 2 Try.underlying22 hi0 v ps.length _ ho, by simpa using hown', ⟨rfl, rfl, rfl, Nat.le_refl _, fun _ _ _ => rfl⟩, .inl rfl⟩
  · obtain ⟨v', w', hr, h1, h2, _, h4⟩ := run_append_own_at (P := Try.prog) w B 22 ty 31 i0 (.agg #[.int .i64 0, .slice none 0 0]) 2 32 Try.underlying22 hi0 hz0 hz1 hz2 rfl (by decide) v ps.length cs ho ad qs.length cap (cellsOf qs vs) (cellsOf_len qs vs hvl)
      (by
        intro j c hc
        obtain ⟨k, x, ws, u, hx, hu, hh⟩ := cellsOf_inv qs vs hvl j c hc
        obtain ⟨b, off, u', e, hu', _, g1, g2, _⟩ := hcell k x ws hx
        injection e with e
        subst e
        rw [hu] at hu'
        obtain rfl : u = u' := by simpa using hu'
        have ea : ∀ j, (⟨b, off, none⟩ : Addr).add j = ⟨b, off + j, none⟩ := fun j => by unfold Addr.add; split <;> simp_all
        rw [ea]
        rcases hh with ⟨rfl, rfl⟩ | ⟨rfl, rfl⟩
        · exact g1
        · exact g2)
      (by
        intro c hc
        obtain ⟨j, hj⟩ := List.mem_iff_getElem?.1 hc
        obtain ⟨k, x, ws, u, hx, hu, hh⟩ := cellsOf_inv qs vs hvl j c hj
        obtain ⟨b, off, u', e, hu', _, _, _, hi⟩ := hcell k x ws hx
        rw [hu] at hu'
        obtain rfl : u = u' := by simpa using hu'
        rcases hh with ⟨_, rfl⟩ | ⟨_, rfl⟩
        · rfl
        · obtain ⟨A', c', rfl, _⟩ := hi
          rfl)
      (by simp only [maxLen]; omega) (by omega) hB
    refine ⟨v', w', hr, ⟨by simp [h0, hvl], cs ++ cellsOf qs vs, by simpa using h1, fun k y zs hy => ?_⟩, h2, h4⟩
    have hcl : cs.length = ps.length * 2 := ho.1
    have fit : ∀ (u' : Value) (zs : List Int), IntsAt w u' zs → Off u' zs v.ownBlock → Off u' zs v'.ownBlock := fun u' zs a b => by
      rcases h4 with h4 | h4 <;> rw [h4]
      · exact b
      · exact Off.new_ a (Nat.le_refl _)
    rcases Nat.lt_or_ge k ps.length with hk | hk
    · rw [List.getElem?_append_left hk] at hy
      obtain ⟨hi, g1, u', gu, g2, g3, g4⟩ := hcs k y zs hy
      exact ⟨hi, by rw [List.getElem?_append_left (by omega)]; exact g1, u', by rw [List.getElem?_append_left (by omega)]; exact gu, by rw [List.getElem?_append_left (by omega)]; exact g2, g3.keep h2 g4, fit u' zs g3 g4⟩
    · rw [List.getElem?_append_right hk] at hy
      obtain ⟨b, off, u', e, hu', hi, _, _, g3⟩ := hcell _ y zs hy
      obtain ⟨q1, q2⟩ := cellsOf_get qs vs _ y zs u' hy hu'
      have g4 := hne _ y zs u' hy hu'
      refine ⟨hi, ?_, u', ?_, ?_, g3.keep h2 g4, fit u' zs g3 g4⟩
      · rw [List.getElem?_append_right (by omega), hcl, show k * 2 - ps.length * 2 = (k - ps.length) * 2 by omega]; exact q1
      · rw [List.getElem?_append_right (by omega), h0]; exact hu'
      · rw [List.getElem?_append_right (by omega), hcl, show k * 2 + 1 - ps.length * 2 = (k - ps.length) * 2 + 1 by omega]; exact q2

theorem app_pages (w : World) {ops : Array Oper} {rest : List Oper} {o : Oper} {a : Act} {Q : Exit → Act → World → Prop} (hgd : o.guard = none) (s x : Operand)
    (ho : o.op = .call { callee := .builtin .append, args := #[s, x], argTypes := #[22, 22] }) (B : Nat) (v : Value) (ps : List Pg) (us : List Value) (hs : a.eval s = v) (hown : PagesRow w B v ps us)
    (sv : Value) (qs : List Pg) (vs : List Value) (hx : a.eval x = sv) (hsrc : PagesSrc w sv qs vs) (hne : ∀ (k : Nat) (x : Int) (ws : List Int) (u : Value), qs[k]? = some (x, ws) → vs[k]? = some u → Off u ws v.ownBlock)
    (hlen : ps.length + qs.length ≤ 1000000000) (hB : B ≤ w.heap.size)
    (h : ∀ v' w', PagesRow w' B v' (ps ++ qs) (us ++ vs) → w.grownBy w' v.ownBlock → (v'.ownBlock = v.ownBlock ∨ v'.ownBlock = some w.heap.size) → wpList Try.prog ops Q rest (a.put o.dst v') w') : wpList Try.prog ops Q (o :: rest) a w := by
  refine wpList_plain hgd fun K hK => ?_
  obtain ⟨v', w', hr, h2, h3, h4⟩ := run_app_pages w o.type B v ps us hown sv qs vs hsrc hne hlen hB
  unfold Oper.wp execOp
  simp only [ho, resolve, invoke, builtin, Sem.run_bind, Sem.run_pure, Result.andThen_ok, List.map_toArray, List.map_cons, List.map_nil, hs, hx, hr]
  exact hK _ _ (h v' w' h2 h3 h4)

/-- the tail of a row, as a source -/
theorem PagesRow.tail {w w' : World} {B : Nat} {g c n : Nat} {ps : List Pg} {us : List Value} (h : PagesRow w B (.slice (some ⟨g, 0, none⟩) ps.length c) ps us) (hb : Below w.heap.size w w') (hn : n ≤ ps.length) {A : Option Addr} {c' : Nat} (hA : n < ps.length → A = some ⟨g, n * 2, none⟩) (hA' : A = none → c' = 0) :
    PagesSrc w' (.slice A (ps.length - n) c') (ps.drop n) (us.drop n) := by
  refine ⟨by simp [h.1], A, c', by simp, hA', fun k x ws hx => ?_⟩
  rw [List.getElem?_drop] at hx
  have hk := (List.getElem?_eq_some_iff.1 hx).1
  obtain ⟨g', cap', u, e, hu, hi, p1, p2, p3, _⟩ := h.get hx
  injection e with e1 e2
  injection e1 with e1
  injection e1 with e1 _
  subst e1
  refine ⟨g, n * 2, u, hA (by omega), by rw [List.getElem?_drop]; exact hu, hi, ?_, ?_, p3.below hb⟩
  · rw [show n * 2 + k * 2 = (n + k) * 2 by omega]; exact cell_below hb p1
  · rw [show n * 2 + k * 2 + 1 = (n + k) * 2 + 1 by omega]; exact cell_below hb p2
end Go.Proofs.Ytgkenbjpmondeaa
