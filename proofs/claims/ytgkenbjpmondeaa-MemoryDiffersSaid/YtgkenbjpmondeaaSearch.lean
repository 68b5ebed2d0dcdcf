/- Proved: sort.Search finds the first index at which the closure of memory.place answers true; plain facts on pages in order. -/
import Derived.Test.YtgkenbjpmondeaaBase
namespace Go.Proofs.Ytgkenbjpmondeaa
open Go.RowKit

set_option maxHeartbeats 1000000 in
theorem placeLess_any (i n cap b off mb ab : Nat) (x addr : Int) (w : World) (hi : i < n) (hm : w.cell? ⟨mb, 0, none⟩ = some (.slice (some ⟨b, off, none⟩) n cap)) (ha : w.cell? ⟨ab, 0, none⟩ = some (.int .i64 addr))
    (hx : w.cell? ⟨b, off + i * 2, none⟩ = some (.int .i64 x)) :
    Calls Try.prog 42 #[.int .i64 i, .pointer (some ⟨mb, 0, none⟩), .pointer (some ⟨ab, 0, none⟩)] w fun e w' => e = .returned (.bool (decide (addr < x))) ∧ ∃ n, w' = w.drewN n := by
  go_enter Try.func42, Try.ntmps42
  go_wp2
  go_quiet (fail)
  go_wp2
  go_ret
  exact ⟨rfl, _, rfl⟩

set_option maxHeartbeats 1000000 in
theorem search_any (n mb ab : Nat) (p : Nat → Bool) (w : World) (hn : n ≤ 4611686018427387903)
    (hf : ∀ i, i < n → ∀ k, Calls Try.prog 42 #[.int .i64 i, .pointer (some ⟨mb, 0, none⟩), .pointer (some ⟨ab, 0, none⟩)] (w.drewN k) fun e w' => e = .returned (.bool (p i)) ∧ ∃ m, w' = (w.drewN k).drewN m) :
    Calls Try.prog 37 #[.int .i64 n, .func (.func 42) #[] #[.pointer (some ⟨mb, 0, none⟩), .pointer (some ⟨ab, 0, none⟩)]] w fun e w' => ∃ r : Nat, e = .returned (.int .i64 r) ∧ r ≤ n ∧ (r = 0 ∨ p (r - 1) = false) ∧ (r = n ∨ p r = true) ∧ ∃ m, w' = w.drewN m := by
  have HF := Lib.hid hf; clear hf
  go_enter Try.func37, Try.ntmps37
  go_wp2
  go_loopw [5, 6] (fun i j wr => ∃ (l h k : Nat), i = .int .i64 l ∧ j = .int .i64 h ∧ l ≤ h ∧ h ≤ n ∧ (l = 0 ∨ p (l - 1) = false) ∧ (h = n ∨ p h = true) ∧ wr = w.drewN k) (fun i j _ => (intOf j - intOf i).toNat)
  case atStart => exact ⟨0, n, 0, rfl, rfl, by omega, by omega, .inl rfl, .inl rfl, rfl⟩
  case round =>
    obtain ⟨l, h, k, rfl, rfl, hlh, hhn, hl, hh, rfl⟩ := hrel
    have HL := Lib.hid hl; have HH := Lib.hid hh; clear hl hh
    by_cases hlt : l < h
    · obtain ⟨m, hm1, hm2, hme⟩ : ∃ m : Nat, l ≤ m ∧ m < h ∧ ((l : Int) + (h : Int)) / 2 = (m : Int) := ⟨(l + h) / 2, by omega, by omega, by omega⟩
      have HM := Lib.hid hme; clear hme
      cases hpm : p m with
      | false =>
        have HP := Lib.hid hpm; clear hpm
        go_wp2_with fail
        rw [HM.out]
        refine (HF.out m (by omega) k).mono ?_
        rintro e w' ⟨rfl, q, rfl⟩
        rw [HP.out]
        go_wp2
        go_roundw
        case rel => exact ⟨m + 1, h, k + q, by go_num, rfl, by omega, by omega, .inr HP.out, HH.out, rfl⟩
        case measure => simp [intOf]; omega
      | true =>
        have HP := Lib.hid hpm; clear hpm
        go_wp2_with fail
        rw [HM.out]
        refine (HF.out m (by omega) k).mono ?_
        rintro e w' ⟨rfl, q, rfl⟩
        rw [HP.out]
        go_wp2
        go_roundw
        case rel => exact ⟨l, m, k + q, rfl, rfl, by omega, by omega, HL.out, .inr HP.out, rfl⟩
        case measure => simp [intOf]; omega
    · go_wp2_with fail
      go_ret
      exact ⟨l, rfl, by omega, HL.out, (by have hx := HH.out; rw [show h = l by omega] at hx; exact hx), k, rfl⟩

def Good (ps : List Pg) : Prop := ps.length ≤ 50000 ∧ (∀ (j : Nat) (x : Int) (ws : List Int), ps[j]? = some (x, ws) → 0 ≤ x ∧ x ≤ 1099511627776 ∧ x % 64 = 0 ∧ ws.length = 64) ∧
  ∀ (i j : Nat) (x y : Int) (ws zs : List Int), i < j → ps[i]? = some (x, ws) → ps[j]? = some (y, zs) → x < y

def PlaceP (ps : List Pg) (addr i k : Int) (ok : Bool) : Prop :=
  (ok = false ∧ i = 0 ∧ k = 0 ∧ ∀ (j : Nat) (x : Int) (ws : List Int), ps[j]? = some (x, ws) → ¬ (x ≤ addr ∧ addr - x < 64)) ∨
  (ok = true ∧ ∃ (j n : Nat) (x : Int) (ws : List Int), i = j ∧ k = n ∧ ps[j]? = some (x, ws) ∧ addr = x + n ∧ n < 64)

theorem place_none {ps : List Pg} {addr : Int} (hg : Good ps) (h : 0 = ps.length ∨ ∃ x ws, ps[0]? = some (x, ws) ∧ addr < x) : PlaceP ps addr 0 0 false := by
  refine .inl ⟨rfl, rfl, rfl, fun j x ws hx hh => ?_⟩
  rcases h with h | ⟨y, zs, h0, h1⟩
  · have : j < ps.length := (List.getElem?_eq_some_iff.1 hx).1
    omega
  · rcases Nat.eq_zero_or_pos j with rfl | hj
    · rw [hx] at h0; cases h0; omega
    · have := hg.2.2 0 j y x zs ws hj h0 hx; omega

theorem place_out {ps : List Pg} {addr : Int} {r : Nat} {x : Int} {ws : List Int} (hg : Good ps) (hr : ps[r]? = some (x, ws)) (hx : x ≤ addr) (h64 : 64 ≤ addr - x)
    (h : r + 1 = ps.length ∨ ∃ y zs, ps[r + 1]? = some (y, zs) ∧ addr < y) : PlaceP ps addr 0 0 false := by
  refine .inl ⟨rfl, rfl, rfl, fun j y zs hy hh => ?_⟩
  have hjl : j < ps.length := (List.getElem?_eq_some_iff.1 hy).1
  rcases Nat.lt_trichotomy j r with hj | rfl | hj
  · have := hg.2.2 j r y x zs ws hj hy hr; omega
  · rw [hy] at hr; cases hr; omega
  · rcases h with h | ⟨z, us, h0, h1⟩
    · omega
    · rcases Nat.eq_or_lt_of_le (show r + 1 ≤ j by omega) with hj' | hj'
      · subst hj'; rw [hy] at h0; cases h0; omega
      · have := hg.2.2 (r + 1) j z y us zs hj' h0 hy; omega

theorem place_in {ps : List Pg} {addr : Int} {r : Nat} {x : Int} {ws : List Int} (hr : ps[r]? = some (x, ws)) (hx : x ≤ addr) (h64 : addr - x < 64) : PlaceP ps addr r (addr - x) true :=
  .inr ⟨rfl, r, (addr - x).toNat, x, ws, rfl, by omega, hr, by omega, by omega⟩
end Go.Proofs.Ytgkenbjpmondeaa
