/- Proved: debuggerlaw25.MemoryOf returns true for every slice of ints. -/
import Derived.Test.YtgkenbjpmondeaaAwake
import Derived.Test.YtgkenbjpmondeaaOfR
import Derived.Test.YtgkenbjpmondeaaSame
namespace Go.Proofs.Ytgkenbjpmondeaa
open Go.RowKit

theorem i64_of_wf {n : Int} (h : (Lit.int .i64 n).wf = true) : I64 n := by
  simpa [I64, Lit.wf, IntKind.min, IntKind.max, IntKind.signed, IntKind.bits] using h

/-- what the shell tells of a slice of ints that came in -/
theorem IntsAt.of_row {w : World} {a : Option Addr} {len cap : Nat} {zs : List Int}
    (h : (a = none ∧ len = 0 ∧ cap = 0 ∧ zs = []) ∨ ∃ x, a = some x ∧ len ≤ cap ∧ cap ≤ maxLen ∧ zs.length = cap ∧ (∀ i, i < zs.length → w.cell? (x.add i) = some (.int .i64 (zs.getD i 0))) ∧ ∀ n ∈ zs, (Lit.int .i64 n).wf = true) :
    IntsAt w (.slice a len cap) (zs.take len) := by
  rcases h with ⟨rfl, rfl, rfl, rfl⟩ | ⟨x, rfl, hl, hm, hz, hc, hw⟩
  · exact ⟨none, 0, rfl, by simp, ⟨by omega, fun _ => rfl⟩, by simp⟩
  · refine ⟨some x, cap, by rw [List.length_take, Nat.min_eq_left (by omega)], by rw [List.length_take]; omega, ⟨by simpa [maxLen] using hm, by simp⟩, fun k y hy => ?_⟩
    rw [List.getElem?_take] at hy
    split at hy
    · rename_i hk
      have hkz : k < zs.length := by omega
      have h0 := hc 0 (by omega)
      obtain ⟨b, off, spot⟩ := x
      have hs : spot = none := by
        simp [Addr.add, World.cell?] at h0
        split at h0
        · cases spot with
          | none => rfl
          | some _ => simp at h0
        · cases h0
      subst hs
      refine ⟨b, off, rfl, i64_of_wf (hw y (List.mem_of_getElem? hy)), ?_⟩
      have h1 := hc k hkz
      have e : (⟨b, off, none⟩ : Addr).add k = ⟨b, off + k, none⟩ := by unfold Addr.add; split <;> simp_all
      rw [e, List.getD_eq_getElem?_getD, hy] at h1
      exact h1
    · cases hy

set_option maxHeartbeats 1000000 in
theorem memoryOf_any (v : Value) (ws : List Int) (w : World) (h : IntsAt w v ws) : Calls Try.prog 4 #[v] w (EqPost true w) := by
  have HI := Lib.hid h
  obtain ⟨A, cap, rfl, _, _, _⟩ := h
  by_cases hl : 1000 < ws.length
  · go_enter Try.func4, Try.ntmps4
    go_wp2_with fail
    refine (awake_any _).mono ?_
    rintro e w1 ⟨rfl, hb1⟩
    go_wp2_with fail
    go_ret
    exact ⟨rfl, hb1⟩
  · go_enter Try.func4, Try.ntmps4
    go_wp2_with fail
    refine (of_any _ ws _ HI.out (by omega)).mono ?_
    rintro e w1 ⟨v1, us1, rfl, hrow1, hb1⟩
    have HR1 := Lib.hid hrow1; have HB1 := Lib.hid hb1; clear hrow1 hb1
    go_wp2_with fail
    refine (rof_any _ ws _ (HI.out.below HB1.out) (by omega)).mono ?_
    rintro e w2 ⟨v2, us2, rfl, hrow2, hb2⟩
    have HR2 := Lib.hid hrow2; have HB2 := Lib.hid hb2; clear hrow2 hb2
    go_wp2_with fail
    refine (same_any _ _ (ofL ws) (ofL ws) _ (HR1.out.at_.below HB2.out) HR2.out.at_).mono ?_
    rintro e w3 ⟨rfl, hb3⟩
    rw [show (ofL ws == ofL ws) = true by simp]
    have HB3 := Lib.hid hb3; clear hb3
    go_wp2_with fail
    refine (awake_any _).mono ?_
    rintro e w4 ⟨rfl, hb4⟩
    have HB4 := Lib.hid hb4; clear hb4
    go_wp2_with fail
    go_ret
    exact ⟨rfl, ((HB1.out.tr HB2.out).tr HB3.out).tr HB4.out⟩
end Go.Proofs.Ytgkenbjpmondeaa
