/- Proved: sort.Search finds the first index at which the closure of memory.Add answers true. -/
import Derived.Test.YtgkenbjpmondeaaSearch
namespace Go.Proofs.Ytgkenbjpmondeaa
open Go.RowKit

set_option maxHeartbeats 1000000 in
theorem addLess_any (i n cap b off mb ab : Nat) (x addr : Int) (w : World) (hi : i < n) (hm : w.cell? ⟨mb, 0, none⟩ = some (.slice (some ⟨b, off, none⟩) n cap)) (ha : w.cell? ⟨ab, 0, none⟩ = some (.int .i64 addr))
    (hx : w.cell? ⟨b, off + i * 2, none⟩ = some (.int .i64 x)) :
    Calls Try.prog 38 #[.int .i64 i, .pointer (some ⟨mb, 0, none⟩), .pointer (some ⟨ab, 0, none⟩)] w fun e w' => e = .returned (.bool (decide (addr ≤ x))) ∧ ∃ n, w' = w.drewN n := by
  go_enter Try.func38, Try.ntmps38
  go_wp2
  go_quiet (fail)
  go_wp2
  go_ret
  exact ⟨rfl, _, rfl⟩

set_option maxHeartbeats 1000000 in
theorem searchA_any (n mb ab : Nat) (p : Nat → Bool) (w : World) (hn : n ≤ 4611686018387387903)
    (hf : ∀ i, i < n → ∀ k, Calls Try.prog 38 #[.int .i64 i, .pointer (some ⟨mb, 0, none⟩), .pointer (some ⟨ab, 0, none⟩)] (w.drewN k) fun e w' => e = .returned (.bool (p i)) ∧ ∃ m, w' = (w.drewN k).drewN m) :
    Calls Try.prog 37 #[.int .i64 n, .func (.func 38) #[] #[.pointer (some ⟨mb, 0, none⟩), .pointer (some ⟨ab, 0, none⟩)]] w fun e w' => ∃ r : Nat, e = .returned (.int .i64 r) ∧ r ≤ n ∧ (r = 0 ∨ p (r - 1) = false) ∧ (r = n ∨ p r = true) ∧ ∃ m, w' = w.drewN m := by
  have HF := Lib.hid hf; clear hf
  go_enter Try.func37, Try.ntmps37
  go_wp2
  go_loopw [5, 6] (fun i j wr => ∃ (l h k : Nat), i = .int .i64 l ∧ j = .int .i64 h ∧ l ≤ h ∧ h ≤ n ∧ (l = 0 ∨ p (l - 1) = false) ∧ (h = n ∨ p h = true) ∧ wr = w.drewN k) (fun i j _ => (intOf j - intOf i).toNat)
  case atStart => exact ⟨0, n, 0, rfl, rfl, by omega, by omega, .inl rfl, .inl rfl, rfl⟩
  case round =>
    obtain ⟨l, h, k, rfl, rfl, hlh, hhn, hl, hh, rfl⟩ := hrel
    have HL := Lib.hid hl; have HH := Lib.hid hh; clear hl hh
    by_cases hlt : l < h
    · obtain ⟨m, hm1, hm2, hme⟩ : ∃ m : Nat, l ≤ m ∧ m < h ∧ ((l : Int) + (h : Int)) / 2 = (m : Int) := ⟨(l + h) / 2, by omega, by omega, by omega⟩
      have HM := Lib.hid hme; clear hme
      cases hpm : p m with
      | false =>
        have HP := Lib.hid hpm; clear hpm
        go_wp2_with fail
        rw [HM.out]
        refine (HF.out m (by omega) k).mono ?_
        rintro e w' ⟨rfl, q, rfl⟩
        rw [HP.out]
        go_wp2
        go_roundw
        case rel => exact ⟨m + 1, h, k + q, by go_num, rfl, by omega, by omega, .inr HP.out, HH.out, rfl⟩
        case measure => simp [intOf]; omega
      | true =>
        have HP := Lib.hid hpm; clear hpm
        go_wp2_with fail
        rw [HM.out]
        refine (HF.out m (by omega) k).mono ?_
        rintro e w' ⟨rfl, q, rfl⟩
        rw [HP.out]
        go_wp2
        go_roundw
        case rel => exact ⟨l, m, k + q, rfl, rfl, by omega, by omega, HL.out, .inr HP.out, rfl⟩
        case measure => simp [intOf]; omega
    · go_wp2_with fail
      go_ret
      exact ⟨l, rfl, by omega, HL.out, (by have hx := HH.out; rw [show h = l by omega] at hx; exact hx), k, rfl⟩

end Go.Proofs.Ytgkenbjpmondeaa
