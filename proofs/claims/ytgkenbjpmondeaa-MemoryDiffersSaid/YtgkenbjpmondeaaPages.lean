/- A row of pages of the call's own: appended to. -/
import Derived.Test.YtgkenbjpmondeaaOwn
namespace Go.Proofs.Ytgkenbjpmondeaa
open Go.RowKit

/-- where the slice has elements, it does not lie in this row -/
def Off (v : Value) (xs : List Int) (row : Option Nat) : Prop := xs ≠ [] → v.ownBlock ≠ row

theorem IntsAt.keep {w w' : World} {v : Value} {xs : List Int} {row : Option Nat} (h : IntsAt w v xs) (hg : w.grownBy w' row) (hne : Off v xs row) : IntsAt w' v xs := by
  obtain ⟨A, cap, rfl, hl, hm, hc⟩ := h
  refine ⟨A, cap, rfl, hl, hm, fun k x hx => ?_⟩
  have hn : xs ≠ [] := by rintro rfl; simp at hx
  obtain ⟨b, off, rfl, hi, hc⟩ := hc k x hx
  exact ⟨b, off, rfl, hi, hg.cell hc (by simpa [Value.ownBlock] using hne hn)⟩
theorem IntsAt.lt {w : World} {v : Value} {xs : List Int} (h : IntsAt w v xs) (hn : xs ≠ []) : ∃ b, v.ownBlock = some b ∧ b < w.heap.size := by
  obtain ⟨A, cap, rfl, hl, hm, hc⟩ := h
  cases xs with
  | nil => exact absurd rfl hn
  | cons x xs =>
    obtain ⟨b, off, rfl, hi, hc⟩ := hc 0 x rfl
    exact ⟨b, rfl, World.block_lt_of_cell? _ _ hc⟩
theorem Off.none_ {w : World} {v : Value} {xs : List Int} (h : IntsAt w v xs) : Off v xs none := fun hn => by
  obtain ⟨b, e, _⟩ := h.lt hn
  rw [e]; simp
theorem Off.new_ {w : World} {v : Value} {xs : List Int} (h : IntsAt w v xs) {g : Nat} (hg : w.heap.size ≤ g) : Off v xs (some g) := fun hn => by
  obtain ⟨b, e, hb⟩ := h.lt hn
  rw [e]; simp; omega

/-- a row of pages of the call's own, in a block from B on; the words of page k are the slice us[k], which lies elsewhere -/
def PagesRow (w : World) (B : Nat) (v : Value) (ps : List Pg) (us : List Value) : Prop :=
  us.length = ps.length ∧ ∃ cs : List Value, w.ownsRow B 31 2 v ps.length cs ∧ ∀ (k : Nat) (x : Int) (ws : List Int), ps[k]? = some (x, ws) → I64 x ∧ cs[k * 2]? = some (.int .i64 x) ∧
    ∃ u, us[k]? = some u ∧ cs[k * 2 + 1]? = some u ∧ IntsAt w u ws ∧ Off u ws v.ownBlock

theorem PagesRow.nil (w : World) (B : Nat) : PagesRow w B (.slice none 0 0) [] [] := ⟨rfl, [], World.ownsRow_nil w B 31 2, by simp⟩

theorem PagesRow.lt {w : World} {B : Nat} {v : Value} {ps : List Pg} {us : List Value} (h : PagesRow w B v ps us) : ∀ k, v.ownBlock = some k → B ≤ k ∧ k < w.heap.size := by
  obtain ⟨_, cs, h, _⟩ := h
  exact h.lt

theorem PagesRow.at_ {w : World} {B : Nat} {v : Value} {ps : List Pg} {us : List Value} (h : PagesRow w B v ps us) : PagesAt w v ps := by
  obtain ⟨_, cs, h, hc⟩ := h
  rcases h.2 with ⟨rfl, h0⟩ | ⟨g, cap, cur, rfl, hb, hg, hn, hcap, hs, ht⟩
  · refine ⟨none, 0, by rw [h0], by omega, ⟨by omega, fun _ => rfl⟩, fun k x ws hx => ?_⟩
    have := (List.getElem?_eq_some_iff.1 hx).1
    omega
  · refine ⟨some ⟨g, 0, none⟩, cap, rfl, hn, ⟨by simpa [maxLen] using hcap, by simp⟩, fun k x ws hx => ?_⟩
    have hk := (List.getElem?_eq_some_iff.1 hx).1
    obtain ⟨hi, h1, u, _, h2, h3, _⟩ := hc k x ws hx
    refine ⟨g, 0, u, rfl, hi, ?_, ?_, h3⟩
    · rw [World.ownsRow.cellAt h (0 + k * 2) (by omega), Nat.zero_add]; exact h1
    · rw [World.ownsRow.cellAt h (0 + k * 2 + 1) (by omega), Nat.zero_add]; exact h2

theorem PagesRow.keep {w w' : World} {B : Nat} {v : Value} {ps : List Pg} {us : List Value} {row : Option Nat} (h : PagesRow w B v ps us) (hg : w.grownBy w' row) (hne : v.ownBlock = none ∨ v.ownBlock ≠ row)
    (hus : ∀ (k : Nat) (x : Int) (ws : List Int) (u : Value), ps[k]? = some (x, ws) → us[k]? = some u → Off u ws row) : PagesRow w' B v ps us := by
  obtain ⟨h0, cs, h, hc⟩ := h
  refine ⟨h0, cs, h.kept hg hne, fun k x ws hx => ?_⟩
  obtain ⟨hi, h1, u, hu, h2, h3, h4⟩ := hc k x ws hx
  exact ⟨hi, h1, u, hu, h2, h3.keep hg (hus k x ws u hx hu), h4⟩

theorem PagesRow.below {w w' : World} {B : Nat} {v : Value} {ps : List Pg} {us : List Value} (h : PagesRow w B v ps us) (hb : Below w.heap.size w w') : PagesRow w' B v ps us :=
  h.keep (grownBy_of_below hb none) (by cases hv : v.ownBlock <;> simp) (fun k x ws u hx hu => by
    obtain ⟨_, cs, _, hc⟩ := h
    obtain ⟨_, _, u', hu', _, h3, _⟩ := hc k x ws hx
    rw [hu] at hu'; cases hu'
    exact Off.none_ h3)

theorem PagesRow.base {w : World} {B B' : Nat} {v : Value} {ps : List Pg} {us : List Value} (h : PagesRow w B v ps us) (hB : B' ≤ B) : PagesRow w B' v ps us := by
  obtain ⟨h0, cs, ⟨h1, h2⟩, hc⟩ := h
  refine ⟨h0, cs, ⟨h1, ?_⟩, hc⟩
  rcases h2 with h2 | ⟨g, cap, cur, e, hb, r⟩
  · exact .inl h2
  · exact .inr ⟨g, cap, cur, e, by omega, r⟩

/-- what an append of one page gives -/
theorem run_app_page (w : World) (ty : TypeId) (B : Nat) (v : Value) (ps : List Pg) (us : List Value) (hown : PagesRow w B v ps us)
    (g : Nat) (x : Int) (u : Value) (ws : List Int) (hc : w.cell? ⟨g, 0, none⟩ = some (.int .i64 x)) (hc1 : w.cell? ⟨g, 1, none⟩ = some u) (hx : I64 x) (hu : IntsAt w u ws) (hne : Off u ws v.ownBlock)
    (hlen : ps.length ≤ 1000000000) (hB : B ≤ w.heap.size) :
    ∃ v' w', (Builtin.append_ #[22, 22] ty #[v, .slice (some ⟨g, 0, none⟩) 1 1]).run Try.prog w = .ok v' w' ∧ PagesRow w' B v' (ps ++ [(x, ws)]) (us ++ [u]) ∧ w.grownBy w' v.ownBlock ∧ (v'.ownBlock = v.ownBlock ∨ v'.ownBlock = some w.heap.size) := by
  obtain ⟨i0, hi0, hz0, hz1, hz2⟩ := info_parts page_info
  obtain ⟨h0, cs, ho, hcs⟩ := hown
  obtain ⟨v', w', hr, h1, h2, _, h4⟩ := run_append_own_at (P := Try.prog) w B 22 ty 31 i0 (.agg #[.int .i64 0, .slice none 0 0]) 2 32 Try.underlying22 hi0 hz0 hz1 hz2 rfl (by decide) v ps.length cs ho ⟨g, 0, none⟩ 1 1 [.int .i64 x, u] rfl
    (by
      intro j y hy
      match j, hy with
      | 0, hy => simp at hy; subst hy; simpa [Addr.add] using hc
      | 1, hy => simp at hy; subst hy; simpa [Addr.add] using hc1)
    (by
      obtain ⟨A, cap, rfl, _⟩ := hu
      simp [Value.oneCell'])
    (by simp only [maxLen]; omega) (by omega) hB
  refine ⟨v', w', hr, ⟨by simp [h0], cs ++ [.int .i64 x, u], by simpa using h1, fun k y zs hy => ?_⟩, h2, h4⟩
  have hcl : cs.length = ps.length * 2 := ho.1
  have fit : ∀ (u' : Value) (zs : List Int), IntsAt w u' zs → Off u' zs v.ownBlock → Off u' zs v'.ownBlock := fun u' zs a b => by
    rcases h4 with h4 | h4 <;> rw [h4]
    · exact b
    · exact Off.new_ a (Nat.le_refl _)
  rcases Nat.lt_or_ge k ps.length with hk | hk
  · rw [List.getElem?_append_left hk] at hy
    obtain ⟨hi, g1, u', gu, g2, g3, g4⟩ := hcs k y zs hy
    refine ⟨hi, by rw [List.getElem?_append_left (by omega)]; exact g1, u', by rw [List.getElem?_append_left (by omega)]; exact gu, by rw [List.getElem?_append_left (by omega)]; exact g2, g3.keep h2 g4, fit u' zs g3 g4⟩
  · rw [List.getElem?_append_right hk] at hy
    have e0 : k = ps.length := by have := (List.getElem?_eq_some_iff.1 hy).1; simp at this; omega
    subst e0
    simp at hy
    obtain ⟨rfl, rfl⟩ := hy
    refine ⟨hx, by rw [List.getElem?_append_right (by omega), hcl]; simp, u, by rw [List.getElem?_append_right (by omega), h0]; simp, by rw [List.getElem?_append_right (by omega), hcl]; simp [show ps.length * 2 + 1 - ps.length * 2 = 1 by omega], hu.keep h2 hne, fit u _ hu hne⟩

/-- .. in a plain region -/
theorem app_page (w : World) {ops : Array Oper} {rest : List Oper} {o : Oper} {a : Act} {Q : Exit → Act → World → Prop} (hgd : o.guard = none) (s x : Operand)
    (ho : o.op = .call { callee := .builtin .append, args := #[s, x], argTypes := #[22, 22] }) (B : Nat) (v : Value) (ps : List Pg) (us : List Value) (hs : a.eval s = v) (hown : PagesRow w B v ps us)
    (g : Nat) (y : Int) (u : Value) (ws : List Int) (hx : a.eval x = .slice (some ⟨g, 0, none⟩) 1 1) (hc : w.cell? ⟨g, 0, none⟩ = some (.int .i64 y)) (hc1 : w.cell? ⟨g, 1, none⟩ = some u) (hy : I64 y) (hu : IntsAt w u ws) (hne : Off u ws v.ownBlock)
    (hlen : ps.length ≤ 1000000000) (hB : B ≤ w.heap.size)
    (h : ∀ v' w', PagesRow w' B v' (ps ++ [(y, ws)]) (us ++ [u]) → w.grownBy w' v.ownBlock → (v'.ownBlock = v.ownBlock ∨ v'.ownBlock = some w.heap.size) → wpList Try.prog ops Q rest (a.put o.dst v') w') : wpList Try.prog ops Q (o :: rest) a w := by
  refine wpList_plain hgd fun K hK => ?_
  obtain ⟨v', w', hr, h2, h3, h4⟩ := run_app_page w o.type B v ps us hown g y u ws hc hc1 hy hu hne hlen hB
  unfold Oper.wp execOp
  simp only [ho, resolve, invoke, builtin, Sem.run_bind, Sem.run_pure, Result.andThen_ok, List.map_toArray, List.map_cons, List.map_nil, hs, hx, hr]
  exact hK _ _ (h v' w' h2 h3 h4)

/-- .. in a region that draws its order -/
theorem step_app_page (w : World) {ops : Array Oper} {o : Oper} {a : Act} {K : Act → World → Prop} {Q : Exit → Act → World → Prop} {E : Prop} (hgd : o.guard = none) (s x : Operand)
    (ho : o.op = .call { callee := .builtin .append, args := #[s, x], argTypes := #[22, 22] }) (B : Nat) (v : Value) (ps : List Pg) (us : List Value) (hs : a.eval s = v) (hown : PagesRow w B v ps us)
    (g : Nat) (y : Int) (u : Value) (ws : List Int) (hx : a.eval x = .slice (some ⟨g, 0, none⟩) 1 1) (hc : w.cell? ⟨g, 0, none⟩ = some (.int .i64 y)) (hc1 : w.cell? ⟨g, 1, none⟩ = some u) (hy : I64 y) (hu : IntsAt w u ws) (hne : Off u ws v.ownBlock)
    (hlen : ps.length ≤ 1000000000) (hB : B ≤ w.heap.size)
    (h : ∀ v' w', PagesRow w' B v' (ps ++ [(y, ws)]) (us ++ [u]) → w.grownBy w' v.ownBlock → (v'.ownBlock = v.ownBlock ∨ v'.ownBlock = some w.heap.size) → K (a.put o.dst v') w') :
    if Region.wanted o (yielded ops a.tmps) = true then Oper.wp Try.prog o a w K Q else E := by
  have hw : Region.wanted o (yielded ops a.tmps) = true := by simp [Region.wanted, hgd]
  rw [if_pos hw]
  obtain ⟨v', w', hr, h2, h3, h4⟩ := run_app_page w o.type B v ps us hown g y u ws hc hc1 hy hu hne hlen hB
  unfold Oper.wp execOp
  simp only [ho, resolve, invoke, builtin, Sem.run_bind, Sem.run_pure, Result.andThen_ok, List.map_toArray, List.map_cons, List.map_nil, hs, hx, hr]
  exact h v' w' h2 h3 h4
end Go.Proofs.Ytgkenbjpmondeaa
