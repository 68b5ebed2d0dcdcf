/- Proved: memory.Right answers rightB of the pages that it is handed; old memory stays. -/
import Derived.Test.YtgkenbjpmondeaaBase
namespace Go.Proofs.Ytgkenbjpmondeaa
open Go.RowKit

def pageB (p : Pg) : Bool := decide (0 ≤ p.1) && decide (p.1 ≤ 1099511627776) && decide (p.1 % 64 = 0) && decide (p.2.length = 64)
def okAt (ps : List Pg) (j : Nat) : Bool := pageB (ps.getD j (0, [])) && (decide (j = 0) || decide ((ps.getD (j - 1) (0, [])).1 < (ps.getD j (0, [])).1))
def rightB (ps : List Pg) : Bool := decide (ps.length ≤ 50000) && (List.range ps.length).all (okAt ps)

theorem rightB_no {ps : List Pg} {k : Nat} (hk : k < ps.length) (h : okAt ps k = false) : false = rightB ps := by
  unfold rightB
  symm
  rw [Bool.and_eq_false_iff]
  right
  rw [List.all_eq_false]
  exact ⟨k, by simpa using hk, by simp [h]⟩

theorem rightB_yes {ps : List Pg} (hk : ps.length ≤ 50000) (h : ∀ j, j < ps.length → okAt ps j = true) : true = rightB ps := by
  unfold rightB
  symm
  rw [Bool.and_eq_true]
  exact ⟨by simpa using hk, by rw [List.all_eq_true]; intro x hx; exact h x (by simpa using hx)⟩

theorem okAt_eq {ps : List Pg} {k : Nat} {x : Int} {ws : List Int} (hx : ps[k]? = some (x, ws)) :
    okAt ps k = (pageB (x, ws) && (decide (k = 0) || decide ((ps.getD (k - 1) (0, [])).1 < x))) := by
  unfold okAt
  rw [List.getD_eq_getElem?_getD, hx]; rfl
theorem okAt_bad {ps : List Pg} {k : Nat} {x : Int} {ws : List Int} (hx : ps[k]? = some (x, ws)) (h : ¬ (0 ≤ x ∧ x ≤ 1099511627776 ∧ x % 64 = 0 ∧ ws.length = 64)) : okAt ps k = false := by
  rw [okAt_eq hx, Bool.and_eq_false_iff]
  left
  simp only [pageB]
  simp only [← Bool.not_eq_true, Bool.and_eq_true, decide_eq_true_eq]
  intro hh; exact h ⟨hh.1.1.1, hh.1.1.2, hh.1.2, hh.2⟩
theorem okAt_zero {ps : List Pg} {x : Int} {ws : List Int} (hx : ps[0]? = some (x, ws)) (h : 0 ≤ x ∧ x ≤ 1099511627776 ∧ x % 64 = 0 ∧ ws.length = 64) : okAt ps 0 = true := by
  rw [okAt_eq hx]; simp [pageB, h]
theorem okAt_next {ps : List Pg} {k : Nat} {x y : Int} {ws ws' : List Int} (hx : ps[k]? = some (x, ws)) (hy : ps[k - 1]? = some (y, ws')) (hk : k ≠ 0) (h : 0 ≤ x ∧ x ≤ 1099511627776 ∧ x % 64 = 0 ∧ ws.length = 64) : okAt ps k = decide (y < x) := by
  rw [okAt_eq hx, List.getD_eq_getElem?_getD, hy]; simp [pageB, h, hk]

set_option maxHeartbeats 1000000 in
theorem right_any (v : Value) (ps : List Pg) (w : World) (h : PagesAt w v ps) :
    Calls Try.prog 14 #[.agg #[v]] w fun e w' => e = .returned (.bool (rightB ps)) ∧ Below w.heap.size w w' := by
  obtain ⟨A, cap, rfl, hl, hm, hc⟩ := h
  have Hc := Lib.hid hc; clear hc
  by_cases h5 : 50000 < ps.length
  · go_enter Try.func14, Try.ntmps14
    go_wp2
    go_ret
    exact ⟨by simp [rightB]; omega, (Below.refl _ _).al _⟩
  · go_enter Try.func14, Try.ntmps14
    go_wp2
    go_loopw [12] (fun i wr => ∃ k : Nat, i = .int .i64 k ∧ k ≤ ps.length ∧ (∀ j, j < k → okAt ps j = true) ∧ Below (w.heap.size + 1) (w.alloc (.cells #[.slice A ps.length cap] 24)) wr) (fun i _ => ps.length - (intOf i).toNat)
    case atStart => exact ⟨0, rfl, by omega, fun _ h => by omega, Below.refl _ _⟩
    case round =>
      obtain ⟨k, rfl, hk, hj, hb⟩ := hrel
      have hb' : Below w.heap.size w wr := ((Below.refl w.heap.size w).al _).trans (hb.mono (by omega))
      have hp : wr.cell? ⟨w.heap.size, 0, none⟩ = some (.slice A ps.length cap) := (hb.cell (p := ⟨w.heap.size, 0, none⟩) (by simp)).trans (by simp [go_sem])
      have hsz : w.heap.size < wr.heap.size := by have := hb.size; simp at this; omega
      have HB := Lib.hid hb; have HJ := Lib.hid hj; clear hb hj
      by_cases hlt : k < ps.length
      · obtain ⟨⟨x, ws⟩, hx⟩ := get_of_lt hlt
        obtain ⟨b, off, u, rfl, hi, c1, c2, hu⟩ := Hc.out k x ws hx
        obtain ⟨U, ucap, rfl, hul, hum, huc⟩ := hu
        have d1 := cell_below hb' c1
        have d2 := cell_below hb' c2
        have hbl : b < wr.heap.size := World.block_lt_of_cell? _ _ d1
        have HX := Lib.hid hx
        clear c1 c2 huc hx
        unfold I64 at hi
        by_cases hk0 : k = 0
        · have HK := Lib.hid hk0
          have hkp : k ≤ 0 := by omega
          have hkd : decide ((0 : Int) < (k : Int)) = false := by simp; omega
          have hkn : decide (0 < k) = false := by simp; omega
          clear hk0
          have HB' := Lib.hid hb'; clear hb'
          by_cases hg : 0 ≤ x ∧ x ≤ 1099511627776 ∧ x % 64 = 0 ∧ ws.length = 64
          · obtain ⟨g1, g2, g3, g4⟩ := hg
            have g3' : (x % 64 != 0) = false := by simpa using g3
            have HG := Lib.hid g3; clear g3
            go_wp2
            go_quiet (fail)
            go_wp2
            go_roundw
            case rel => exact ⟨k + 1, by go_num, by omega, fun j hjk => by
                obtain rfl : j = 0 := by omega
                rw [HK.out] at HX
                exact okAt_zero HX.out ⟨g1, g2, HG.out, g4⟩, below_drewN (HB.out.alloc (by omega) _) _⟩
            case measure => simp [intOf]; omega
          · go_wp2
            all_goals first
              | (exfalso; apply hg; refine ⟨by omega, by omega, ?_, by omega⟩; simp_all; done)
              | (go_ret; exact ⟨ret_bool (rightB_no hlt (okAt_bad HX.out hg)), HB'.out.al _⟩)
        · obtain ⟨⟨y, ws'⟩, hy⟩ := get_of_lt (show k - 1 < ps.length by omega)
          obtain ⟨b', off', u', hbo, hi', c1, c2, hu⟩ := Hc.out (k - 1) y ws' hy
          obtain ⟨rfl, rfl⟩ : b' = b ∧ off' = off := by simpa using hbo.symm
          have d3 := cell_below hb' c1
          clear c1 c2 hu hbo
          have HY := Lib.hid hy; clear hy
          have HB' := Lib.hid hb'; clear hb'
          by_cases hg : 0 ≤ x ∧ x ≤ 1099511627776 ∧ x % 64 = 0 ∧ ws.length = 64
          · obtain ⟨g1, g2, g3, g4⟩ := hg
            have g3' : (x % 64 != 0) = false := by simpa using g3
            have HG := Lib.hid g3; clear g3
            have hkp : 0 < k := by omega
            by_cases hxy : y < x
            · have hxy' : decide (x ≤ y) = false := by simpa using hxy
              go_wp2
              go_quiet (fail)
              go_wp2
              go_roundw
              case rel => exact ⟨k + 1, by go_num, by omega, fun j hjk => by
                  rcases Nat.lt_or_ge j k with hh | hh
                  · exact HJ.out j hh
                  · obtain rfl : j = k := by omega
                    rw [okAt_next HX.out HY.out hk0 ⟨g1, g2, HG.out, g4⟩]; simpa using hxy, below_drewN (HB.out.alloc (by omega) _) _⟩
              case measure => simp [intOf]; omega
            · go_wp2
              go_quiet (fail)
              go_wp2
              go_ret
              exact ⟨ret_bool (rightB_no hlt (by rw [okAt_next HX.out HY.out hk0 ⟨g1, g2, HG.out, g4⟩]; simpa using hxy)), below_drewN (HB'.out.al _) _⟩
          · go_wp2
            all_goals first
              | (exfalso; apply hg; refine ⟨by omega, by omega, ?_, by omega⟩; simp_all; done)
              | (go_ret; exact ⟨ret_bool (rightB_no hlt (okAt_bad HX.out hg)), HB'.out.al _⟩)
      · clear hb'
        go_wp2
        go_ret
        exact ⟨ret_bool (rightB_yes (by omega) (fun j hjl => HJ.out j (by omega))), ((Below.refl w.heap.size w).al _).trans (HB.out.mono (by omega))⟩
end Go.Proofs.Ytgkenbjpmondeaa
