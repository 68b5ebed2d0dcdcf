/- Proved: a memory that came in as an argument reads as a list of pages. -/
import Derived.Test.YtgkenbjpmondeaaBase
import Derived.Test.YtgkenbjpmondeaaLawOf
import Derived.Deep.Slices
import Derived.Deep.Fields
import Derived.ChangeSame
import Derived.OpenShut
namespace Go.Proofs.Ytgkenbjpmondeaa
open Go.ChangeShapes Go.WideShapes Go.Deep Go.RowKit

section
variable {H : Type} {enc : TypeId × Value → H} {P : Program} {w : World} {base : Nat} {spare : Nat → Bool} {held : Bool}
theorem open_slice_fields {t e : TypeId} {fs : Array Field} {fuel : Nat} {cs : List Value} {x : DataW H × List MemPlace} (ht : P.underlying t = some (.slice e)) (he : P.underlying e = some (.struct fs))
    (hone : oneCellFields P fs = true) (hC : P.cellsOf e = fs.size) (h : DataW.trod enc P w base spare held fuel t cs = some x) :
    cs = [.slice none 0 0] ∨
    ∃ (a : Addr) (len cap : Nat), cs = [.slice (some a) len cap] ∧ len ≤ cap ∧ cap ≤ maxLen ∧
      ∀ i, i < len → ∃ n : Nat, ∀ (j : Nat) (f : Field), fs[j]? = some f → ∃ (v : Value) (y : DataW H × List MemPlace), w.cell? (a.add (i * fs.size + j)) = some v ∧ DataW.trod enc P w base spare held n f.type [v] = some y := by
  rcases open_slice ht h with h0 | ⟨a, len, cap, m, n, D, Pl, hcs, hb, hl, hm, hmm, hx, hi⟩
  · exact .inl h0.1
  · refine .inr ⟨a, len, cap, hcs, hl, hm, fun i him => ?_⟩
    obtain ⟨cs', hc, ht'⟩ := hi i (by rw [hmm]; split <;> omega)
    rw [hC] at hc
    obtain ⟨ys, n', hn', hy, hlen, hyl, hf⟩ := DataW.trod_struct he ht'
    obtain ⟨_, hcl, hat⟩ := World.cells?_some hc
    refine ⟨n', fun j f hj => ?_⟩
    obtain ⟨ho, hk⟩ := hone_of hone j f hj
    have hjl : j < fs.size := (Array.getElem?_eq_some_iff.1 hj).1
    have hcell := hat j hjl
    have hv : cs'[j]? = some (cs'[j]'(by omega)) := List.getElem?_eq_getElem (by omega)
    have h1 := hf j f hj
    rw [ho, hk] at h1
    have hone' : (cs'.drop j).take 1 = [cs'[j]'(by omega)] := by
      rw [List.drop_eq_getElem_cons (by omega)]
      rfl
    rw [hone'] at h1
    have hys : ys[j]? = some (ys[j]'(by omega)) := List.getElem?_eq_getElem (by omega)
    refine ⟨_, _, ?_, h1.trans hys⟩
    rw [← Go.Deep.add_add, hcell, hv]
theorem open_agg1 {r : Reach} {b0 : Nat} {t : TypeId} {f0 : Field} {v : Value} {d : DataW H} {p : List MemPlace} (hs : P.underlying t = some (.struct #[f0])) (hone : oneCellFields P #[f0] = true) (hC : P.cellsOf t = 1)
    (hv : Value.okWide P w r b0 t v) (h : DataW.Trod enc P w base spare held t v d p) :
    ∃ (v0 : Value) (y0 : DataW H × List MemPlace) (n : Nat), v = .agg #[v0] ∧ DataW.trod enc P w base spare held n f0.type [v0] = some y0 := by
  obtain ⟨cs, rfl, hsz⟩ := okWide_struct hs hv
  obtain ⟨l⟩ := cs
  match l, hsz.trans hC with
  | [c0], _ =>
    obtain ⟨fuel, hf⟩ := h
    obtain ⟨xs, n, _, hx, _, hlen, hg⟩ := DataW.trod_struct hs hf
    obtain ⟨o0, k0⟩ := hone_of hone 0 f0 rfl
    match xs, hlen with
    | [y0], _ => exact ⟨c0, y0, n, rfl, by simpa [Value.cells, o0, k0] using hg 0 f0 rfl⟩
end

theorem spot_none {w : World} {a : Addr} {v : Value} (h : w.cell? (a.add 0) = some v) : ∃ b off, a = ⟨b, off, none⟩ := by
  obtain ⟨b, off, spot⟩ := a
  cases spot with
  | none => exact ⟨b, off, rfl⟩
  | some s => simp [Addr.add, World.cell?] at h; split at h <;> simp_all
theorem add_none (b off k : Nat) : (⟨b, off, none⟩ : Addr).add k = ⟨b, off + k, none⟩ := by unfold Addr.add; split <;> simp_all

theorem list_of {α : Type} {R : Nat → α → Prop} : ∀ n : Nat, (∀ i, i < n → ∃ p, R i p) → ∃ l : List α, l.length = n ∧ ∀ i p, l[i]? = some p → R i p
  | 0, _ => ⟨[], rfl, by simp⟩
  | n + 1, h => by
    obtain ⟨l, hl, hr⟩ := list_of n (fun i hi => h i (by omega))
    obtain ⟨p, hp⟩ := h n (by omega)
    refine ⟨l ++ [p], by simp [hl], fun i q hq => ?_⟩
    rcases Nat.lt_or_ge i l.length with hi | hi
    · rw [List.getElem?_append_left hi] at hq; exact hr i q hq
    · rw [List.getElem?_append_right hi] at hq
      have e0 : i - l.length = 0 := by have := (List.getElem?_eq_some_iff.1 hq).1; simp at this; omega
      rw [e0] at hq
      obtain rfl : p = q := by simpa using hq
      obtain rfl : i = n := by omega
      exact hp

section
variable {H : Type} {enc : TypeId × Value → H} {W : World}
theorem ints_of_trod {n : Nat} {v : Value} {y : DataW H × List MemPlace} (h : DataW.trod enc Try.prog W 0 (fun _ => true) true n 25 [v] = some y) : ∃ ws, IntsAt W v ws := by
  rcases open_ints Try.underlying25 Try.underlying3 (by kernel_rfl) h with ⟨hcs, _⟩ | ⟨x, l, c, zs, hcs, _, hl, hm, hz, _, hcell, hwz⟩
  · obtain rfl : v = .slice none 0 0 := by simpa using hcs
    exact ⟨_, IntsAt.of_row (.inl ⟨rfl, rfl, rfl, rfl⟩)⟩
  · obtain rfl : v = .slice (some x) l c := by simpa using hcs
    exact ⟨_, IntsAt.of_row (zs := zs) (.inr ⟨_, rfl, hl, hm, by simpa using hz, hcell, hwz⟩)⟩

theorem pages_of_trod {n : Nat} {v : Value} {y : DataW H × List MemPlace} (h : DataW.trod enc Try.prog W 0 (fun _ => true) true n 22 [v] = some y) : ∃ qs, PagesAt W v qs := by
  rcases open_slice_fields Try.underlying22 Try.underlying31 (by kernel_rfl) (by kernel_rfl) h with hcs | ⟨a, len, cap, hcs, hl, hm, hel⟩
  · obtain rfl : v = .slice none 0 0 := by simpa using hcs
    exact ⟨[], none, 0, rfl, by simp, ⟨by omega, fun _ => rfl⟩, by simp⟩
  · obtain rfl : v = .slice (some a) len cap := by simpa using hcs
    obtain ⟨qs, hq, hr⟩ := list_of (R := fun i (p : Pg) => ∃ b off u, a = ⟨b, off, none⟩ ∧ I64 p.1 ∧ W.cell? ⟨b, off + i * 2, none⟩ = some (.int .i64 p.1) ∧ W.cell? ⟨b, off + i * 2 + 1, none⟩ = some u ∧ IntsAt W u p.2) len (fun i hi => by
      obtain ⟨n, hf⟩ := hel i hi
      obtain ⟨v0, y0, c0, t0⟩ := hf 0 _ rfl
      obtain ⟨v1, y1, c1, t1⟩ := hf 1 _ rfl
      obtain ⟨b, off, rfl⟩ : ∃ b off, a = ⟨b, off, none⟩ := by
        obtain ⟨n', hf'⟩ := hel 0 (by omega)
        obtain ⟨v', y', c', -⟩ := hf' 0 _ rfl
        exact spot_none (by simpa using c')
      obtain ⟨x, hx, -, hw⟩ := DataW.trod_int Try.underlying3 t0
      obtain rfl : v0 = .int .i64 x := by simpa using hx
      obtain ⟨ws, hws⟩ := ints_of_trod t1
      rw [add_none] at c0 c1
      exact ⟨(x, ws), b, off, v1, rfl, i64_of_wf hw, c0, c1, hws⟩)
    refine ⟨qs, some a, cap, by rw [hq], by omega, ⟨by simpa [maxLen] using hm, by simp⟩, fun k x ws hx => ?_⟩
    obtain ⟨b, off, u, rfl, hi, h1, h2, h3⟩ := hr k (x, ws) hx
    exact ⟨b, off, u, rfl, hi, h1, h2, h3⟩

theorem memory_of_Trod {b0 : Nat} {v : Value} {d : DataW H} {p : List MemPlace} (hv : Value.okWide Try.prog W .any b0 24 v) (h : DataW.Trod enc Try.prog W 0 (fun _ => true) true 24 v d p) : ∃ m qs, v = .agg #[m] ∧ PagesAt W m qs := by
  obtain ⟨m, y, n, rfl, ht⟩ := open_agg1 Try.underlying24 (by kernel_rfl) (by kernel_rfl) hv h
  obtain ⟨qs, hq⟩ := pages_of_trod ht
  exact ⟨m, qs, rfl, hq⟩
end
end Go.Proofs.Ytgkenbjpmondeaa
