/- Proved: a page that came in as an argument reads as a base and words. -/
import Derived.Test.YtgkenbjpmondeaaOpenM
namespace Go.Proofs.Ytgkenbjpmondeaa
open Go.ChangeShapes Go.WideShapes Go.Deep Go.RowKit

theorem open_pair {H : Type} {enc : TypeId × Value → H} {P : Program} {w : World} {base : Nat} {spare : Nat → Bool} {held : Bool} {r : Reach} {b0 : Nat} {t : TypeId} {f0 f1 : Field} {v : Value} {d : DataW H} {p : List MemPlace} (hs : P.underlying t = some (.struct #[f0, f1])) (hone : oneCellFields P #[f0, f1] = true) (hC : P.cellsOf t = 2)
    (hv : Value.okWide P w r b0 t v) (h : DataW.Trod enc P w base spare held t v d p) :
    ∃ (v0 v1 : Value) (y0 y1 : DataW H × List MemPlace) (n : Nat), v = .agg #[v0, v1] ∧ DataW.trod enc P w base spare held n f0.type [v0] = some y0 ∧ DataW.trod enc P w base spare held n f1.type [v1] = some y1 := by
  obtain ⟨cs, rfl, hsz⟩ := okWide_struct hs hv
  obtain ⟨l⟩ := cs
  match l, hsz.trans hC with
  | [c0, c1], _ =>
    obtain ⟨fuel, hf⟩ := h
    obtain ⟨xs, n, _, hx, _, hlen, hg⟩ := DataW.trod_struct hs hf
    obtain ⟨o0, k0⟩ := hone_of hone 0 f0 rfl
    obtain ⟨o1, k1⟩ := hone_of hone 1 f1 rfl
    match xs, hlen with
    | [y0, y1], _ => exact ⟨c0, c1, y0, y1, n, rfl, by simpa [Value.cells, o0, k0] using hg 0 f0 rfl, by simpa [Value.cells, o1, k1] using hg 1 f1 rfl⟩

theorem page_of_Trod {H : Type} {enc : TypeId × Value → H} {W : World} {b0 : Nat} {v : Value} {d : DataW H} {p : List MemPlace} (hv : Value.okWide Try.prog W .any b0 31 v) (h : DataW.Trod enc Try.prog W 0 (fun _ => true) true 31 v d p) : ∃ x u ws, v = .agg #[.int .i64 x, u] ∧ I64 x ∧ IntsAt W u ws := by
  obtain ⟨v0, v1, y0, y1, n, rfl, t0, t1⟩ := open_pair Try.underlying31 (by kernel_rfl) (by kernel_rfl) hv h
  obtain ⟨x, hx, -, hw⟩ := DataW.trod_int Try.underlying3 t0
  obtain rfl : v0 = .int .i64 x := by simpa using hx
  obtain ⟨ws, hws⟩ := ints_of_trod t1
  exact ⟨x, v1, ws, rfl, i64_of_wf hw, hws⟩
end Go.Proofs.Ytgkenbjpmondeaa
