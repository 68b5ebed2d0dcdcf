/- Words for memory: a slice of ints that reads as a list, a slice of pages that reads as a list. -/
import Derived.Test.YtgkenbjpmondeaaRows
import Derived.WalkKit
import Derived.WalkSpells
import Derived.WalkLawsBesides
import Derived.Deep.QuietTactic
import Derived.BigQuiet
import Derived.Lib.Hide
import Derived.Deep.Draws
import Derived.Lib.QuietBelow
import Derived.Deep.RegionHeld3
import Derived.Deep.DeepFit
import Derived.Deep.DeepCutAuto
namespace Go.Proofs.Ytgkenbjpmondeaa
open Go.RowKit Go.Sort

/-- a page as data: base and words -/
abbrev Pg := Int × List Int

def I64 (x : Int) : Prop := -9223372036854775808 ≤ x ∧ x ≤ 9223372036854775807

def IntsAt (w : World) (v : Value) (xs : List Int) : Prop :=
  ∃ A cap, v = .slice A xs.length cap ∧ xs.length ≤ cap ∧ (cap ≤ 9223372036854775807 ∧ (A = none → cap = 0)) ∧ ∀ k x, xs[k]? = some x → ∃ b off, A = some ⟨b, off, none⟩ ∧ I64 x ∧ w.cell? ⟨b, off + k, none⟩ = some (.int .i64 x)

def PagesAt (w : World) (v : Value) (ps : List Pg) : Prop :=
  ∃ A cap, v = .slice A ps.length cap ∧ ps.length ≤ cap ∧ (cap ≤ 9223372036854775807 ∧ (A = none → cap = 0)) ∧ ∀ k x ws, ps[k]? = some (x, ws) → ∃ b off u, A = some ⟨b, off, none⟩ ∧ I64 x ∧
    w.cell? ⟨b, off + k * 2, none⟩ = some (.int .i64 x) ∧ w.cell? ⟨b, off + k * 2 + 1, none⟩ = some u ∧ IntsAt w u ws

theorem cell_below {w w' : World} (hb : Below w.heap.size w w') {a : Addr} {v : Value} (h : w.cell? a = some v) : w'.cell? a = some v :=
  (hb.cell (World.block_lt_of_cell? w a h)).trans h

theorem IntsAt.below {w w' : World} {v : Value} {xs : List Int} (h : IntsAt w v xs) (hb : Below w.heap.size w w') : IntsAt w' v xs := by
  obtain ⟨A, cap, hv, hl, hm, hc⟩ := h
  refine ⟨A, cap, hv, hl, hm, fun k x hx => ?_⟩
  obtain ⟨b, off, hA, hi, hc⟩ := hc k x hx
  exact ⟨b, off, hA, hi, cell_below hb hc⟩

theorem PagesAt.below {w w' : World} {v : Value} {ps : List Pg} (h : PagesAt w v ps) (hb : Below w.heap.size w w') : PagesAt w' v ps := by
  obtain ⟨A, cap, hv, hl, hm, hc⟩ := h
  refine ⟨A, cap, hv, hl, hm, fun k x ws hx => ?_⟩
  obtain ⟨b, off, u, hA, hi, h1, h2, h3⟩ := hc k x ws hx
  exact ⟨b, off, u, hA, hi, cell_below hb h1, cell_below hb h2, h3.below hb⟩

theorem below_drewN {B : Nat} {a w : World} (h : Below B a w) (n : Nat) : Below B a (w.drewN n) := ⟨h.os, h.tape, h.output, h.size, h.block⟩
/-- everything that was there is as it was -/
theorem _root_.Go.RowKit.Below.tr {a b c : World} (h : Below a.heap.size a b) (k : Below b.heap.size b c) : Below a.heap.size a c := h.trans (k.mono h.size)
theorem _root_.Go.RowKit.Below.al {a b : World} (h : Below a.heap.size a b) (o : Obj) : Below a.heap.size a (b.alloc o) := h.alloc h.size o

theorem ret_bool {a b : Bool} (h : a = b) : Ending.returned (.bool a) = .returned (.bool b) := by rw [h]
theorem ret_int {a b : Int} (h : a = b) : Ending.returned (.int .i64 a) = .returned (.int .i64 b) := by rw [h]

theorem get_of_lt {α : Type} {l : List α} {k : Nat} (h : k < l.length) : ∃ x, l[k]? = some x := ⟨l[k], List.getElem?_eq_getElem h⟩

end Go.Proofs.Ytgkenbjpmondeaa
