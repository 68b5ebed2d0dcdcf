/- Proved: debuggerref25.find and debuggerref25.Word answer as memory.place and memory.Word do, for pages in order. -/
import Derived.Test.YtgkenbjpmondeaaWith
namespace Go.Proofs.Ytgkenbjpmondeaa
open Go.RowKit

def FindP (ps : List Pg) (addr k : Int) : Prop :=
  (k = -1 ∧ ∀ (j : Nat) (x : Int) (ws : List Int), ps[j]? = some (x, ws) → ¬ (x ≤ addr ∧ addr - x < 64)) ∨
  ∃ (j n : Nat) (x : Int) (ws : List Int), k = j ∧ ps[j]? = some (x, ws) ∧ addr = x + n ∧ n < 64
def FindPost (ps : List Pg) (addr : Int) (w : World) (e : Ending) (w' : World) : Prop := ∃ k, e = .returned (.int .i64 k) ∧ FindP ps addr k ∧ Below w.heap.size w w'

set_option maxHeartbeats 2000000 in
theorem find_any (v : Value) (ps : List Pg) (addr : Int) (w : World) (h : PagesAt w v ps) (hg : Good ps) (ha : I64 addr) :
    Calls Try.prog 34 #[.agg #[v], .int .i64 addr] w (FindPost ps addr w) := by
  obtain ⟨A, cap, rfl, hl, hm, hc⟩ := h
  have hlen := hg.1
  unfold I64 at ha
  have HG := Lib.hid hg; have Hc := Lib.hid hc
  clear hg hc hm
  go_enter Try.func34, Try.ntmps34
  go_wp2_with fail
  go_loop [5] (fun s => ∃ (k : Nat), s = .int .i64 (k : Int) ∧ k ≤ ps.length ∧ ∀ (j : Nat) (x : Int) (ws : List Int), j < k → ps[j]? = some (x, ws) → ¬ (x ≤ addr ∧ addr - x < 64)) (fun s => ps.length - (intOf s).toNat)
  case atStart => exact ⟨0, rfl, by omega, fun j x ws h => by omega⟩
  case round =>
    obtain ⟨k, rfl, hk, hno⟩ := hrel
    have HNO := Lib.hid hno; clear hno
    by_cases hlt : k < ps.length
    · obtain ⟨⟨x, ws⟩, hx⟩ := get_of_lt hlt
      obtain ⟨b, off, u, rfl, hi, c1, c2, hu⟩ := Hc.out k x ws hx
      obtain ⟨U, uc, rfl, -, -, -⟩ := hu
      obtain ⟨g1, g2, -, g4⟩ := HG.out.2.1 k x ws hx
      rw [g4] at c2
      have hbl := World.block_lt_of_cell? _ _ c1
      simp only at hbl
      have HX := Lib.hid hx
      clear hx hi g4
      by_cases h1 : x ≤ addr
      · by_cases h2 : addr - x < 64
        · go_wp2_with fail
          go_ret
          refine ⟨k, rfl, .inr ⟨k, (addr - x).toNat, x, ws, rfl, HX.out, by omega, by omega⟩, (Below.refl _ _).al _⟩
        · go_wp2_with fail
          go_round
          case rel => exact ⟨k + 1, by go_num, by omega, fun j y zs hj hy => by
              rcases Nat.lt_or_ge j k with h | h
              · exact HNO.out j y zs h hy
              · obtain rfl : j = k := by omega
                have := HX.out.symm.trans hy
                simp at this
                omega⟩
          case measure => simp [intOf]; omega
      · go_wp2_with fail
        go_round
        case rel => exact ⟨k + 1, by go_num, by omega, fun j y zs hj hy => by
            rcases Nat.lt_or_ge j k with h | h
            · exact HNO.out j y zs h hy
            · obtain rfl : j = k := by omega
              have := HX.out.symm.trans hy
              simp at this
              omega⟩
        case measure => simp [intOf]; omega
    · go_wp2_with fail
      go_ret
      exact ⟨-1, rfl, .inl ⟨rfl, fun j x ws hx => HNO.out j x ws (by have := (List.getElem?_eq_some_iff.1 hx).1; omega) hx⟩, (Below.refl _ _).al _⟩

set_option maxHeartbeats 1000000 in
theorem rword_any (v : Value) (ps : List Pg) (addr : Int) (w : World) (h : PagesAt w v ps) (hg : Good ps) (ha : I64 addr) :
    Calls Try.prog 21 #[.agg #[v], .int .i64 addr] w (WordPost ps addr w) := by
  have hW := h
  obtain ⟨A, cap, rfl, hl, hm, hc⟩ := h
  have hlen := hg.1
  have HG := Lib.hid hg; have Hc := Lib.hid hc; have HW := Lib.hid hW; have HA := Lib.hid ha
  clear hg hc hW hm
  unfold I64 at ha
  go_enter Try.func21, Try.ntmps21
  go_wp2_with fail
  refine (find_any _ ps addr _ (HW.out.below ((Below.refl _ _).al _)) HG.out HA.out).mono ?_
  rintro e w' ⟨k, rfl, hp, hb⟩
  have hb' := ((Below.refl _ _).al _).tr hb
  have hp0 : w'.cell? ⟨w.heap.size, 0, none⟩ = some (.slice A ps.length cap) := (hb.cell (p := ⟨w.heap.size, 0, none⟩) (by simp)).trans (by simp [go_sem])
  rcases hp with ⟨rfl, hno⟩ | ⟨j, n, x, ws, rfl, hj, haddr, hn⟩
  · have HN := Lib.hid hno; have HB' := Lib.hid hb'
    clear hno hb hb'
    go_wp2_with fail
    go_ret2
    exact ⟨0, false, rfl, .inl ⟨rfl, rfl, HN.out⟩, by unfold I64; omega, HB'.out⟩
  · obtain ⟨b, off, u, rfl, hi', c1, c2, hu⟩ := Hc.out j x ws hj
    obtain ⟨U, ucap, rfl, hul, hum, huc⟩ := hu
    obtain ⟨g1, g2, -, hws⟩ := HG.out.2.1 _ _ _ hj
    obtain ⟨y, hy⟩ := get_of_lt (show n < ws.length by omega)
    obtain ⟨bu, ou, rfl, hiy, cy⟩ := huc n y hy
    have hjl : j < ps.length := (List.getElem?_eq_some_iff.1 hj).1
    have d0 := cell_below hb' c1
    have d1 := cell_below hb' c2
    have d2 := cell_below hb' cy
    rw [hws] at d1
    have hax : addr - x = (n : Int) := by omega
    have hj0 : (0 : Int) ≤ (j : Int) := Int.natCast_nonneg _
    have hj1 : (j : Int) < (ps.length : Int) := by omega
    have HJ := Lib.hid hj; have HY := Lib.hid hy; have HB' := Lib.hid hb'; have HIY := Lib.hid hiy
    subst haddr
    have hsub : IntKind.i64.wrap (x + (n : Int) - x) = (n : Int) := by rw [show x + (n : Int) - x = n by omega]; exact IntWalk.i64_in _ (by omega)
    have hn0 : (0 : Int) ≤ (n : Int) := Int.natCast_nonneg _
    have hn64 : (n : Int) < 64 := by omega
    clear c1 c2 huc hws cy hj hy hb hb' hiy hax
    go_wp2_with fail
    go_quiet (fail)
    go_wp2_with fail
    go_ret2
    exact ⟨y, true, rfl, .inr ⟨rfl, j, n, x, ws, HJ.out, rfl, hn, HY.out⟩, HIY.out, below_drewN HB'.out _⟩
end Go.Proofs.Ytgkenbjpmondeaa
