/- Rows of the call's own: slices of ints and of pages that are appended to. -/
import Derived.Test.YtgkenbjpmondeaaBase
import Derived.Maps.AppendAt
import Derived.Laws.CopyOwn
import Derived.Laws.AppendOwnNone
namespace Go.Proofs.Ytgkenbjpmondeaa
open Go.RowKit

theorem int_info : (Try.prog.info? 3).map (fun i => (i.zero, i.size, i.bytes)) = some (some (.int .i64 0), 1, 8) := by kernel_rfl
theorem page_info : (Try.prog.info? 31).map (fun i => (i.zero, i.size, i.bytes)) = some (some (.agg #[.int .i64 0, .slice none 0 0]), 2, 32) := by kernel_rfl

/-- a row of ints of the call's own, in a block from B on -/
def IntsOwn (w : World) (B : Nat) (v : Value) (xs : List Int) : Prop :=
  w.ownsRow B 3 1 v xs.length (xs.map (Value.int .i64)) ∧ ∀ x ∈ xs, I64 x

theorem IntsOwn.nil (w : World) (B : Nat) : IntsOwn w B (.slice none 0 0) [] := ⟨World.ownsRow_nil w B 3 1, by simp⟩

theorem IntsOwn.at_ {w : World} {B : Nat} {v : Value} {xs : List Int} (h : IntsOwn w B v xs) : IntsAt w v xs := by
  obtain ⟨h, hi⟩ := h
  rcases h.2 with ⟨rfl, h0⟩ | ⟨g, cap, cur, rfl, hb, hg, hn, hc, hs, ht⟩
  · refine ⟨none, 0, by rw [h0], by omega, ⟨by omega, fun _ => rfl⟩, fun k x hx => ?_⟩
    have := (List.getElem?_eq_some_iff.1 hx).1
    omega
  · refine ⟨some ⟨g, 0, none⟩, cap, rfl, hn, ⟨by simpa [maxLen] using hc, by simp⟩, fun k x hx => ⟨g, 0, rfl, hi x (List.mem_of_getElem? hx), ?_⟩⟩
    have hk := (List.getElem?_eq_some_iff.1 hx).1
    rw [World.ownsRow.cellAt h (0 + k) (by omega)]
    simp [hx]

theorem IntsOwn.shape {w : World} {B : Nat} {v : Value} {xs : List Int} (h : IntsOwn w B v xs) : ∃ A c, v = .slice A xs.length c := by
  obtain ⟨A, c, hv, _⟩ := h.at_
  exact ⟨A, c, hv⟩
theorem IntsOwn.keep {w w' : World} {B : Nat} {v : Value} {xs : List Int} {row : Option Nat} (h : IntsOwn w B v xs) (hg : w.grownBy w' row) (hne : v.ownBlock = none ∨ v.ownBlock ≠ row) : IntsOwn w' B v xs :=
  ⟨h.1.kept hg hne, h.2⟩

theorem grownBy_of_below {a w : World} (h : Below a.heap.size a w) (row : Option Nat) : a.grownBy w row := ⟨h.os, h.tape, h.output, h.size, fun i hi _ => h.block i hi⟩

theorem IntsOwn.below {w w' : World} {B : Nat} {v : Value} {xs : List Int} (h : IntsOwn w B v xs) (hb : Below w.heap.size w w') : IntsOwn w' B v xs :=
  h.keep (grownBy_of_below hb none) (by cases hv : v.ownBlock <;> simp)

/-- append of one int -/
theorem app_int (w : World) {ops : Array Oper} {rest : List Oper} {o : Oper} {a : Act} {Q : Exit → Act → World → Prop} (hgd : o.guard = none) (s x : Operand)
    (ho : o.op = .call { callee := .builtin .append, args := #[s, x], argTypes := #[25, 25] }) (B : Nat) (v : Value) (xs : List Int) (hs : a.eval s = v) (hown : IntsOwn w B v xs)
    (g : Nat) (y : Int) (hx : a.eval x = .slice (some ⟨g, 0, none⟩) 1 1) (hc : w.cell? ⟨g, 0, none⟩ = some (.int .i64 y)) (hy : I64 y) (hlen : xs.length ≤ 1000000000) (hB : B ≤ w.heap.size)
    (h : ∀ v' w', IntsOwn w' B v' (xs ++ [y]) → w.grownBy w' v.ownBlock → (v'.ownBlock = v.ownBlock ∨ v'.ownBlock = some w.heap.size) → wpList Try.prog ops Q rest (a.put o.dst v') w') : wpList Try.prog ops Q (o :: rest) a w := by
  obtain ⟨i0, hi0, hz0, hz1, hz2⟩ := info_parts int_info
  refine wpList_append_own_at w hgd s x 25 ho B 3 i0 (.int .i64 0) 1 8 Try.underlying25 hi0 hz0 hz1 hz2 rfl (by decide) v xs.length (xs.map (Value.int .i64)) hs hown.1 ⟨g, 0, none⟩ 1 1 [.int .i64 y] hx rfl ?_ ?_ (by simp only [maxLen]; omega) (by omega) hB ?_
  · intro j u hu
    match j, hu with
    | 0, hu => simp at hu; subst hu; simpa [Addr.add] using hc
  · simp [Value.oneCell']
  · intro v' w' h1 h2 _ h4
    refine h v' w' ⟨by simpa using h1, fun z hz => ?_⟩ h2 h4
    rcases List.mem_append.1 hz with hz | hz
    · exact hown.2 z hz
    · obtain rfl : z = y := by simpa using hz
      exact hy

/-- append of a whole slice of ints -/
theorem run_app_ints (w : World) (ty : TypeId) (B : Nat) (v : Value) (xs : List Int) (hown : IntsOwn w B v xs)
    (u : Value) (ys : List Int) (hu : IntsAt w u ys) (hlen : xs.length + ys.length ≤ 10000000000000) (hB : B ≤ w.heap.size) :
    ∃ v' w', (Builtin.append_ #[25, 25] ty #[v, u]).run Try.prog w = .ok v' w' ∧ IntsOwn w' B v' (xs ++ ys) ∧ w.grownBy w' v.ownBlock ∧ (v'.ownBlock = v.ownBlock ∨ v'.ownBlock = some w.heap.size) := by
  obtain ⟨i0, hi0, hz0, hz1, hz2⟩ := info_parts int_info
  obtain ⟨A, cap, rfl, hl, hm, hcell⟩ := hu
  have hall : ∀ z ∈ xs ++ ys, I64 z := fun z hz => by
    rcases List.mem_append.1 hz with hz | hz
    · exact hown.2 z hz
    · obtain ⟨k, hk⟩ := List.mem_iff_getElem?.1 hz
      obtain ⟨_, _, _, hi, _⟩ := hcell k z hk
      exact hi
  rcases A with _ | ad
  · have hy : ys = [] := by
      cases ys with
      | nil => rfl
      | cons y ys => obtain ⟨b, off, h, _⟩ := hcell 0 y rfl; cases h
    subst hy
    obtain rfl := hm.2 rfl
    exact ⟨v, w, run_append_owned_none (P := Try.prog) (w := w) B 25 ty 3 i0 1 Try.underlying25 hi0 v xs.length _ hown.1, by simpa using hown, ⟨rfl, rfl, rfl, Nat.le_refl _, fun _ _ _ => rfl⟩, .inl rfl⟩
  · obtain ⟨v', w', hr, h1, h2, _, h4⟩ := run_append_own_at (P := Try.prog) w B 25 ty 3 i0 (.int .i64 0) 1 8 Try.underlying25 hi0 hz0 hz1 hz2 rfl (by decide) v xs.length (xs.map (Value.int .i64)) hown.1 ad ys.length cap (ys.map (Value.int .i64)) (by simp)
      (by
        intro j u hu
        rw [List.getElem?_map] at hu
        obtain ⟨y, hy, rfl⟩ := Option.map_eq_some_iff.1 hu
        obtain ⟨b, off, h1, _, h3⟩ := hcell j y hy
        injection h1 with h1
        subst h1
        have e : (⟨b, off, none⟩ : Addr).add j = ⟨b, off + j, none⟩ := by unfold Addr.add; split <;> simp_all
        rw [e]; exact h3)
      (by
        intro u hu
        obtain ⟨y, _, rfl⟩ := List.mem_map.1 hu
        rfl)
      (by simp only [maxLen]; omega) (by omega) hB
    exact ⟨v', w', hr, ⟨by simpa using h1, hall⟩, h2, h4⟩

theorem app_ints (w : World) {ops : Array Oper} {rest : List Oper} {o : Oper} {a : Act} {Q : Exit → Act → World → Prop} (hgd : o.guard = none) (s x : Operand)
    (ho : o.op = .call { callee := .builtin .append, args := #[s, x], argTypes := #[25, 25] }) (B : Nat) (v : Value) (xs : List Int) (hs : a.eval s = v) (hown : IntsOwn w B v xs)
    (u : Value) (ys : List Int) (hx : a.eval x = u) (hu : IntsAt w u ys) (hlen : xs.length + ys.length ≤ 10000000000000) (hB : B ≤ w.heap.size)
    (h : ∀ v' w', IntsOwn w' B v' (xs ++ ys) → w.grownBy w' v.ownBlock → (v'.ownBlock = v.ownBlock ∨ v'.ownBlock = some w.heap.size) → wpList Try.prog ops Q rest (a.put o.dst v') w') : wpList Try.prog ops Q (o :: rest) a w := by
  refine wpList_plain hgd fun K hK => ?_
  obtain ⟨v', w', hr, h2, h3, h4⟩ := run_app_ints w o.type B v xs hown u ys hu hlen hB
  unfold Oper.wp execOp
  simp only [ho, resolve, invoke, builtin, Sem.run_bind, Sem.run_pure, Result.andThen_ok, List.map_toArray, List.map_cons, List.map_nil, hs, hx, hr]
  exact hK _ _ (h v' w' h2 h3 h4)

theorem step_app_ints (w : World) {ops : Array Oper} {o : Oper} {a : Act} {K : Act → World → Prop} {Q : Exit → Act → World → Prop} {E : Prop} (hgd : o.guard = none) (s x : Operand)
    (ho : o.op = .call { callee := .builtin .append, args := #[s, x], argTypes := #[25, 25] }) (B : Nat) (v : Value) (xs : List Int) (hs : a.eval s = v) (hown : IntsOwn w B v xs)
    (u : Value) (ys : List Int) (hx : a.eval x = u) (hu : IntsAt w u ys) (hlen : xs.length + ys.length ≤ 10000000000000) (hB : B ≤ w.heap.size)
    (h : ∀ v' w', IntsOwn w' B v' (xs ++ ys) → w.grownBy w' v.ownBlock → (v'.ownBlock = v.ownBlock ∨ v'.ownBlock = some w.heap.size) → K (a.put o.dst v') w') :
    if Region.wanted o (yielded ops a.tmps) = true then Oper.wp Try.prog o a w K Q else E := by
  have hw : Region.wanted o (yielded ops a.tmps) = true := by simp [Region.wanted, hgd]
  rw [if_pos hw]
  obtain ⟨v', w', hr, h2, h3, h4⟩ := run_app_ints w o.type B v xs hown u ys hu hlen hB
  unfold Oper.wp execOp
  simp only [ho, resolve, invoke, builtin, Sem.run_bind, Sem.run_pure, Result.andThen_ok, List.map_toArray, List.map_cons, List.map_nil, hs, hx, hr]
  exact h v' w' h2 h3 h4

/-- an empty slice that is not nil -/
theorem IntsOwn.empty {w : World} {B g : Nat} (hg : w.heap[g]? = some (.cells #[] 3 (0, 0))) (hB : B ≤ g) : IntsOwn w B (.slice (some ⟨g, 0, none⟩) 0 0) [] :=
  ⟨⟨by simp, .inr ⟨g, 0, #[], rfl, hB, hg, by simp, by simp [maxLen], by simp, by simp⟩⟩, by simp⟩
end Go.Proofs.Ytgkenbjpmondeaa
