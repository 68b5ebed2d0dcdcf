/- Proved: debuggerref25.Ints tells whether two lists of ints are the same. -/
import Derived.Test.YtgkenbjpmondeaaPages
namespace Go.Proofs.Ytgkenbjpmondeaa
open Go.RowKit

def EqPost (b : Bool) (w : World) (e : Ending) (w' : World) : Prop := e = .returned (.bool b) ∧ Below w.heap.size w w'
theorem beq_of_all {xs ys : List Int} (hl : xs.length = ys.length) (h : ∀ j, j < xs.length → xs[j]? = ys[j]?) : true = (xs == ys) := by
  have : xs = ys := List.ext_getElem? fun j => by
    by_cases hj : j < xs.length
    · exact h j hj
    · rw [List.getElem?_eq_none (by omega), List.getElem?_eq_none (by omega)]
  subst this; simp

set_option maxHeartbeats 1000000 in
theorem ints_any (u v : Value) (xs ys : List Int) (w : World) (hx : IntsAt w u xs) (hy : IntsAt w v ys) :
    Calls Try.prog 25 #[u, v] w (EqPost (xs == ys) w) := by
  obtain ⟨A, ac, rfl, hac, ham, hA⟩ := hx
  obtain ⟨C, cc, rfl, hcc, hcm, hC⟩ := hy
  have HA := Lib.hid hA; have HC := Lib.hid hC; clear hA hC
  have ha := ham.1; have hc := hcm.1; clear ham hcm
  by_cases hl : xs.length = ys.length
  · have HL := Lib.hid hl
    have hl' : ((xs.length : Int) != (ys.length : Int)) = false := by simp [hl]
    have hln : (xs.length != ys.length) = false := by simp [hl]
    have h1 : xs.length ≤ ys.length := by omega
    have h2 : ys.length ≤ xs.length := by omega
    clear hl
    go_enter Try.func25, Try.ntmps25
    go_wp2_with fail
    go_loopw [5] (fun s wr => ∃ (k n : Nat), s = .int .i64 (k : Int) ∧ k ≤ xs.length ∧ (∀ j, j < k → xs[j]? = ys[j]?) ∧ wr = w.drewN n) (fun s _ => xs.length - (intOf s).toNat)
    case atStart => exact ⟨0, 0, rfl, by omega, fun j hj => by omega, rfl⟩
    case round =>
      obtain ⟨k, n, rfl, hk, hpre, rfl⟩ := hrel
      have HP := Lib.hid hpre; clear hpre
      by_cases hlt : k < xs.length
      · obtain ⟨x, hx⟩ := get_of_lt hlt
        obtain ⟨y, hy⟩ := get_of_lt (show k < ys.length by omega)
        obtain ⟨b, off, rfl, hi, c1⟩ := HA.out k x hx
        obtain ⟨b', off', rfl, hi', c2⟩ := HC.out k y hy
        have HX := Lib.hid hx; have HY := Lib.hid hy; clear hx hy
        have hlt2 : k < ys.length := by omega
        by_cases hxy : x = y
        · have hne : (x != y) = false := by simp [hxy]
          have HXY := Lib.hid hxy; clear hxy
          go_wp2_with fail
          go_quiet (fail)
          go_wp2_with fail
          go_roundw
          case rel => exact ⟨k + 1, _, by go_num, by omega, fun j hj => by
              rcases Nat.lt_or_ge j k with h | h
              · exact HP.out j h
              · obtain rfl : j = k := by omega
                rw [HX.out, HY.out, HXY.out], rfl⟩
          case measure => simp [intOf]; omega
        · have hne : (x != y) = true := by simp [hxy]
          go_wp2_with fail
          go_quiet (fail)
          go_wp2_with fail
          go_ret
          refine ⟨ret_bool ?_, below_drewN (below_drewN (Below.refl _ _) _) _⟩
          symm
          rw [beq_eq_false_iff_ne]
          rintro rfl
          have := HX.out.symm.trans HY.out
          simp at this; exact hxy this
      · go_wp2_with fail
        go_ret
        exact ⟨ret_bool (beq_of_all HL.out fun j hj => HP.out j (by omega)), below_drewN (Below.refl _ _) _⟩
  · have hl' : ((xs.length : Int) != (ys.length : Int)) = true := by simp; omega
    have hln : (xs.length != ys.length) = true := by simp [hl]
    go_enter Try.func25, Try.ntmps25
    go_wp2_with fail
    go_ret
    refine ⟨ret_bool ?_, Below.refl _ _⟩
    symm
    rw [beq_eq_false_iff_ne]
    rintro rfl
    exact hl rfl
end Go.Proofs.Ytgkenbjpmondeaa
