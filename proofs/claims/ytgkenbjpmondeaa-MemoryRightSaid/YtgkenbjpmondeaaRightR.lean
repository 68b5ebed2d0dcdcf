/- Proved: debuggerref25.Right answers rightB of the pages that it is handed; debuggerlaw25.small answers; old memory stays. -/
import Derived.Test.YtgkenbjpmondeaaSomeL
import Derived.Test.YtgkenbjpmondeaaInts
import Derived.Test.YtgkenbjpmondeaaLexB
namespace Go.Proofs.Ytgkenbjpmondeaa
open Go.RowKit

def AnyBool (w : World) (e : Ending) (w' : World) : Prop := ∃ b : Bool, e = .returned (.bool b) ∧ Below w.heap.size w w'

set_option maxHeartbeats 1000000 in
theorem small_any (v : Value) (ps : List Pg) (w : World) (h : PagesAt w v ps) : Calls Try.prog 10 #[.agg #[v]] w (AnyBool w) := by
  obtain ⟨A, cap, rfl, hl, hm, hc⟩ := h
  have Hc := Lib.hid hc
  clear hc hm
  go_enter Try.func10, Try.ntmps10
  go_wp2_with fail
  go_loop [3] (fun s => ∃ (k : Nat), s = .int .i64 (k : Int) ∧ k ≤ 10) (fun s => 10 - (intOf s).toNat)
  case atStart => exact ⟨0, rfl, by omega⟩
  case round =>
    obtain ⟨k, rfl, hk⟩ := hrel
    by_cases hlt : k < ps.length
    · obtain ⟨⟨x, ws⟩, hx⟩ := get_of_lt hlt
      obtain ⟨b, off, u, rfl, hi, c1, c2, hu⟩ := Hc.out k x ws hx
      obtain ⟨U, uc, rfl, -, -, -⟩ := hu
      have hbl := World.block_lt_of_cell? _ _ c1
      simp only at hbl
      clear hx hi
      by_cases hk10 : k < 10
      · by_cases h2 : 200 < ws.length
        · go_wp2_with fail
          go_ret
          exact ⟨false, rfl, (Below.refl _ _).al _⟩
        · go_wp2_with fail
          go_round
          case rel => exact ⟨k + 1, by go_num, by omega⟩
          case measure => simp [intOf]; omega
      · go_wp2_with fail
        go_ret
        exact ⟨_, rfl, (Below.refl _ _).al _⟩
    · go_wp2_with fail
      go_ret
      exact ⟨_, rfl, (Below.refl _ _).al _⟩

set_option maxRecDepth 1000000 in
set_option maxHeartbeats 2000000 in
theorem rright_any (v : Value) (ps : List Pg) (w : World) (h : PagesAt w v ps) :
    Calls Try.prog 15 #[.agg #[v]] w (EqPost (rightB ps) w) := by
  obtain ⟨A, cap, rfl, hl, hm, hc⟩ := h
  have hm' := hm.1
  have Hc := Lib.hid hc; clear hc hm
  go_enter Try.func15, Try.ntmps15
  go_wp2_with fail
  go_loopw [3] (fun i wr => ∃ k : Nat, i = .int .i64 k ∧ k ≤ ps.length ∧ (∀ j, j < k → okAt ps j = true) ∧ Below (w.heap.size + 1) (w.alloc (.cells #[.slice A ps.length cap] 24)) wr) (fun i _ => ps.length - (intOf i).toNat)
  case atStart => exact ⟨0, rfl, by omega, fun _ h => by omega, Below.refl _ _⟩
  case round =>
    obtain ⟨k, rfl, hk, hj, hb⟩ := hrel
    have hb' : Below w.heap.size w wr := ((Below.refl w.heap.size w).al _).trans (hb.mono (by omega))
    have hp : wr.cell? ⟨w.heap.size, 0, none⟩ = some (.slice A ps.length cap) := (hb.cell (p := ⟨w.heap.size, 0, none⟩) (by simp)).trans (by simp [go_sem])
    have hsz : w.heap.size < wr.heap.size := by have := hb.size; simp at this; omega
    have HB := Lib.hid hb; have HJ := Lib.hid hj; have HB' := Lib.hid hb'; clear hb hj hb'
    by_cases hlt : k < ps.length
    · obtain ⟨⟨x, ws⟩, hx⟩ := get_of_lt hlt
      obtain ⟨b, off, u, rfl, hi, c1, c2, hu⟩ := Hc.out k x ws hx
      have HU := Lib.hid hu
      have d1 := cell_below HB'.out c1
      have d2 := cell_below HB'.out c2
      have hbl : b < wr.heap.size := World.block_lt_of_cell? _ _ d1
      have HX := Lib.hid hx
      clear c1 c2 hx hu hi
      have hk0 : (0 : Int) ≤ (k : Int) := Int.natCast_nonneg _
      have hk1 : (k : Int) < (ps.length : Int) := by omega
      go_wp2_with fail
      cases hpg : pageB (x, ws) with
      | false =>
        have hbad : okAt ps k = false := by rw [okAt_eq HX.out, hpg]; rfl
        have HBAD := Lib.hid hbad; clear hbad
        obtain ⟨S, eS⟩ : ∃ S : World → Prop, S = fun w' => w'.cell? ⟨w.heap.size, 0, none⟩ = some (.slice (some ⟨b, off, none⟩) ps.length cap) ∧ w'.cell? ⟨b, off + k * 2, none⟩ = some (.int .i64 x) ∧ w'.cell? ⟨b, off + k * 2 + 1, none⟩ = some (u) ∧ w'.cell? ⟨b, off + k * 2, none⟩ = some (.int .i64 x) := ⟨_, rfl⟩
        have mkS : ∀ w' : World, w'.cell? ⟨w.heap.size, 0, none⟩ = some (.slice (some ⟨b, off, none⟩) ps.length cap) → w'.cell? ⟨b, off + k * 2, none⟩ = some (.int .i64 x) → w'.cell? ⟨b, off + k * 2 + 1, none⟩ = some (u) → w'.cell? ⟨b, off + k * 2, none⟩ = some (.int .i64 x) → S w' := fun w' g0 g1 g2 g3 => by rw [eS]; exact ⟨g0, g1, g2, g3⟩
        have sS := mkS _ hp d1 d2 d1
        have ne_ : Nonempty (Lex.HW S) := ⟨⟨_, sS⟩⟩
        have exS : ∀ w' : World, S w' → w'.cell? ⟨w.heap.size, 0, none⟩ = some (.slice (some ⟨b, off, none⟩) ps.length cap) ∧ w'.cell? ⟨b, off + k * 2, none⟩ = some (.int .i64 x) ∧ w'.cell? ⟨b, off + k * 2 + 1, none⟩ = some (u) ∧ w'.cell? ⟨b, off + k * 2, none⟩ = some (.int .i64 x) := fun w' h => by rw [eS] at h; exact h
        have q0_ : ∀ p : Lex.HW S, p.w.cell? ⟨w.heap.size, 0, none⟩ = some (.slice (some ⟨b, off, none⟩) ps.length cap) := fun p => (exS _ p.ok).1
        have q1_ : ∀ p : Lex.HW S, p.w.cell? ⟨b, off + k * 2, none⟩ = some (.int .i64 x) := fun p => (exS _ p.ok).2.1
        have q2_ : ∀ p : Lex.HW S, p.w.cell? ⟨b, off + k * 2 + 1, none⟩ = some (u) := fun p => (exS _ p.ok).2.2.1
        have q3_ : ∀ p : Lex.HW S, p.w.cell? ⟨b, off + k * 2, none⟩ = some (.int .i64 x) := fun p => (exS _ p.ok).2.2.2
        clear eS exS
        have MKS := Lib.hid mkS; clear mkS sS
        refine Lex.wp_region_lex S 27 [([0, 1, 2, 3, 4], some 5), ([6, 7, 8, 9, 10, 11, 12, 13, 14, 15, 16, 17, 18, 19, 20, 21, 22, 23, 24, 25, 26], none)] (by kernel_rfl) (by kernel_rfl) (fun _ _ d _ _ h => by cases d <;> exact h) (MKS.out _ hp d1 d2 d1) ?_
        refine Lex.lexW_some (os := ?_) (o := ?_) (by simp only [List.filterMap_cons, List.filterMap_nil, List.getElem?_toArray, List.getElem?_cons_zero, List.getElem?_cons_succ]; rfl) (by simp only [List.getElem?_toArray, List.getElem?_cons_zero, List.getElem?_cons_succ]; rfl) ?_
        repeat (first | go_big_quiet_step (fail) | quiet_step (fail))
        refine wpQuiet_nil ?_
        intro K hK
        have HK := Lib.hid hK; clear hK
        go_wp2_with fail
        refine (page_any x u ws _ (HU.out.below HB'.out.drew)).mono ?_
        rintro e w2 ⟨rfl, hb2⟩
        rw [hpg]
        have b2 : Below wr.heap.size wr w2 := ((Below.refl _ _).drew).tr hb2
        have HB2 := Lib.hid (HB'.out.tr b2); have HBW := Lib.hid (HB.out.trans (b2.mono (by omega)))
        clear hb2
        go_wp2_with fail
        refine HK.out _ _ (fun _ => MKS.out _ (cell_below b2 hp) (cell_below b2 d1) (cell_below b2 d2) (cell_below b2 d1)) ?_
        clear HK K
        clear b2
        refine Lex.lexW_none (by (repeat (apply Lex.fm_cons; (case h => rfl))); apply Lex.fm_nil) ?_
        repeat (first | go_big_quiet_step (fail) | quiet_step (fail))
        refine wpQuiet_nil (Lex.lexW_nil ?_)
        go_wp2_with fail
        go_ret
        exact ⟨ret_bool (rightB_no hlt HBAD.out), HB2.out⟩
      | true =>
        have hgood : 0 ≤ x ∧ x ≤ 1099511627776 ∧ x % 64 = 0 ∧ ws.length = 64 := pageB_iff.1 hpg
        have HGOOD := Lib.hid hgood; clear hgood
        by_cases hz : k = 0
        · have HZ := Lib.hid hz
          have hkd : decide ((0 : Int) < (k : Int)) = false := by simp; omega
          have hkn : decide (0 < k) = false := by simp; omega
          clear hz
          obtain ⟨S, eS⟩ : ∃ S : World → Prop, S = fun w' => w'.cell? ⟨w.heap.size, 0, none⟩ = some (.slice (some ⟨b, off, none⟩) ps.length cap) ∧ w'.cell? ⟨b, off + k * 2, none⟩ = some (.int .i64 x) ∧ w'.cell? ⟨b, off + k * 2 + 1, none⟩ = some (u) ∧ w'.cell? ⟨b, off + k * 2, none⟩ = some (.int .i64 x) := ⟨_, rfl⟩
          have mkS : ∀ w' : World, w'.cell? ⟨w.heap.size, 0, none⟩ = some (.slice (some ⟨b, off, none⟩) ps.length cap) → w'.cell? ⟨b, off + k * 2, none⟩ = some (.int .i64 x) → w'.cell? ⟨b, off + k * 2 + 1, none⟩ = some (u) → w'.cell? ⟨b, off + k * 2, none⟩ = some (.int .i64 x) → S w' := fun w' g0 g1 g2 g3 => by rw [eS]; exact ⟨g0, g1, g2, g3⟩
          have sS := mkS _ hp d1 d2 d1
          have ne_ : Nonempty (Lex.HW S) := ⟨⟨_, sS⟩⟩
          have exS : ∀ w' : World, S w' → w'.cell? ⟨w.heap.size, 0, none⟩ = some (.slice (some ⟨b, off, none⟩) ps.length cap) ∧ w'.cell? ⟨b, off + k * 2, none⟩ = some (.int .i64 x) ∧ w'.cell? ⟨b, off + k * 2 + 1, none⟩ = some (u) ∧ w'.cell? ⟨b, off + k * 2, none⟩ = some (.int .i64 x) := fun w' h => by rw [eS] at h; exact h
          have q0_ : ∀ p : Lex.HW S, p.w.cell? ⟨w.heap.size, 0, none⟩ = some (.slice (some ⟨b, off, none⟩) ps.length cap) := fun p => (exS _ p.ok).1
          have q1_ : ∀ p : Lex.HW S, p.w.cell? ⟨b, off + k * 2, none⟩ = some (.int .i64 x) := fun p => (exS _ p.ok).2.1
          have q2_ : ∀ p : Lex.HW S, p.w.cell? ⟨b, off + k * 2 + 1, none⟩ = some (u) := fun p => (exS _ p.ok).2.2.1
          have q3_ : ∀ p : Lex.HW S, p.w.cell? ⟨b, off + k * 2, none⟩ = some (.int .i64 x) := fun p => (exS _ p.ok).2.2.2
          clear eS exS
          have MKS := Lib.hid mkS; clear mkS sS
          refine Lex.wp_region_lex S 27 [([0, 1, 2, 3, 4], some 5), ([6, 7, 8, 9, 10, 11, 12, 13, 14, 15, 16, 17, 18, 19, 20, 21, 22, 23, 24, 25, 26], none)] (by kernel_rfl) (by kernel_rfl) (fun _ _ d _ _ h => by cases d <;> exact h) (MKS.out _ hp d1 d2 d1) ?_
          refine Lex.lexW_some (os := ?_) (o := ?_) (by simp only [List.filterMap_cons, List.filterMap_nil, List.getElem?_toArray, List.getElem?_cons_zero, List.getElem?_cons_succ]; rfl) (by simp only [List.getElem?_toArray, List.getElem?_cons_zero, List.getElem?_cons_succ]; rfl) ?_
          repeat (first | go_big_quiet_step (fail) | quiet_step (fail))
          refine wpQuiet_nil ?_
          intro K hK
          have HK := Lib.hid hK; clear hK
          go_wp2_with fail
          refine (page_any x u ws _ (HU.out.below HB'.out.drew)).mono ?_
          rintro e w2 ⟨rfl, hb2⟩
          rw [hpg]
          have b2 : Below wr.heap.size wr w2 := ((Below.refl _ _).drew).tr hb2
          have HB2 := Lib.hid (HB'.out.tr b2); have HBW := Lib.hid (HB.out.trans (b2.mono (by omega)))
          clear hb2
          go_wp2_with fail
          refine HK.out _ _ (fun _ => MKS.out _ (cell_below b2 hp) (cell_below b2 d1) (cell_below b2 d2) (cell_below b2 d1)) ?_
          clear HK K
          clear b2
          refine Lex.lexW_none (by (repeat (apply Lex.fm_cons; (case h => rfl))); apply Lex.fm_nil) ?_
          repeat (first | go_big_quiet_step (fail) | quiet_step (fail))
          refine wpQuiet_nil (Lex.lexW_nil ?_)
          go_wp2_with fail
          go_roundw
          case rel => exact ⟨k + 1, by go_num, by omega, fun j hjk => by
                have hk' := HZ.out
                obtain rfl : j = 0 := by omega
                rw [HZ.out] at HX
                exact okAt_zero HX.out HGOOD.out, HBW.out⟩
          case measure => simp [intOf]; omega
        · obtain ⟨⟨y, ws'⟩, hy⟩ := get_of_lt (show k - 1 < ps.length by omega)
          obtain ⟨b', off', u', hbo, hi', c1, c2, hu⟩ := Hc.out (k - 1) y ws' hy
          obtain ⟨rfl, rfl⟩ : b = b' ∧ off = off' := by simpa using hbo
          have d3 := cell_below HB'.out c1
          have HY := Lib.hid hy; have HZ := Lib.hid hz
          have hkp : 0 < k := by omega
          have hkd : decide ((0 : Int) < (k : Int)) = true := by simp; omega
          have hkn : decide (0 < k) = true := by simp; omega
          have hw1 : IntKind.i64.wrap ((k : Int) - 1) = (k : Int) - 1 := IntWalk.i64_in _ (by omega)
          have hw2 : (0 : Int) ≤ (k : Int) - 1 := by omega
          have hw3 : (k : Int) - 1 < (ps.length : Int) := by omega
          have hw4 : ((k : Int) - 1).toNat = k - 1 := by omega
          clear c1 c2 hu hbo hy hz hi'
          by_cases hxy : y < x
          · have hxy' : decide (x ≤ y) = false := by simpa using hxy
            have HXY := Lib.hid hxy
            clear hxy
            obtain ⟨S, eS⟩ : ∃ S : World → Prop, S = fun w' => w'.cell? ⟨w.heap.size, 0, none⟩ = some (.slice (some ⟨b, off, none⟩) ps.length cap) ∧ w'.cell? ⟨b, off + k * 2, none⟩ = some (.int .i64 x) ∧ w'.cell? ⟨b, off + k * 2 + 1, none⟩ = some (u) ∧ w'.cell? ⟨b, off + (k - 1) * 2, none⟩ = some (.int .i64 y) := ⟨_, rfl⟩
            have mkS : ∀ w' : World, w'.cell? ⟨w.heap.size, 0, none⟩ = some (.slice (some ⟨b, off, none⟩) ps.length cap) → w'.cell? ⟨b, off + k * 2, none⟩ = some (.int .i64 x) → w'.cell? ⟨b, off + k * 2 + 1, none⟩ = some (u) → w'.cell? ⟨b, off + (k - 1) * 2, none⟩ = some (.int .i64 y) → S w' := fun w' g0 g1 g2 g3 => by rw [eS]; exact ⟨g0, g1, g2, g3⟩
            have sS := mkS _ hp d1 d2 d3
            have ne_ : Nonempty (Lex.HW S) := ⟨⟨_, sS⟩⟩
            have exS : ∀ w' : World, S w' → w'.cell? ⟨w.heap.size, 0, none⟩ = some (.slice (some ⟨b, off, none⟩) ps.length cap) ∧ w'.cell? ⟨b, off + k * 2, none⟩ = some (.int .i64 x) ∧ w'.cell? ⟨b, off + k * 2 + 1, none⟩ = some (u) ∧ w'.cell? ⟨b, off + (k - 1) * 2, none⟩ = some (.int .i64 y) := fun w' h => by rw [eS] at h; exact h
            have q0_ : ∀ p : Lex.HW S, p.w.cell? ⟨w.heap.size, 0, none⟩ = some (.slice (some ⟨b, off, none⟩) ps.length cap) := fun p => (exS _ p.ok).1
            have q1_ : ∀ p : Lex.HW S, p.w.cell? ⟨b, off + k * 2, none⟩ = some (.int .i64 x) := fun p => (exS _ p.ok).2.1
            have q2_ : ∀ p : Lex.HW S, p.w.cell? ⟨b, off + k * 2 + 1, none⟩ = some (u) := fun p => (exS _ p.ok).2.2.1
            have q3_ : ∀ p : Lex.HW S, p.w.cell? ⟨b, off + (k - 1) * 2, none⟩ = some (.int .i64 y) := fun p => (exS _ p.ok).2.2.2
            clear eS exS
            have MKS := Lib.hid mkS; clear mkS sS
            refine Lex.wp_region_lex S 27 [([0, 1, 2, 3, 4], some 5), ([6, 7, 8, 9, 10, 11, 12, 13, 14, 15, 16, 17, 18, 19, 20, 21, 22, 23, 24, 25, 26], none)] (by kernel_rfl) (by kernel_rfl) (fun _ _ d _ _ h => by cases d <;> exact h) (MKS.out _ hp d1 d2 d3) ?_
            refine Lex.lexW_some (os := ?_) (o := ?_) (by simp only [List.filterMap_cons, List.filterMap_nil, List.getElem?_toArray, List.getElem?_cons_zero, List.getElem?_cons_succ]; rfl) (by simp only [List.getElem?_toArray, List.getElem?_cons_zero, List.getElem?_cons_succ]; rfl) ?_
            repeat (first | go_big_quiet_step (fail) | quiet_step (fail))
            refine wpQuiet_nil ?_
            intro K hK
            have HK := Lib.hid hK; clear hK
            go_wp2_with fail
            refine (page_any x u ws _ (HU.out.below HB'.out.drew)).mono ?_
            rintro e w2 ⟨rfl, hb2⟩
            rw [hpg]
            have b2 : Below wr.heap.size wr w2 := ((Below.refl _ _).drew).tr hb2
            have HB2 := Lib.hid (HB'.out.tr b2); have HBW := Lib.hid (HB.out.trans (b2.mono (by omega)))
            clear hb2
            go_wp2_with fail
            refine HK.out _ _ (fun _ => MKS.out _ (cell_below b2 hp) (cell_below b2 d1) (cell_below b2 d2) (cell_below b2 d3)) ?_
            clear HK K
            clear b2
            refine Lex.lexW_none (by (repeat (apply Lex.fm_cons; (case h => rfl))); apply Lex.fm_nil) ?_
            repeat (first | go_big_quiet_step (fail) | quiet_step (fail))
            refine wpQuiet_nil (Lex.lexW_nil ?_)
            go_wp2_with fail
            go_roundw
            case rel => exact ⟨k + 1, by go_num, by omega, fun j hjk => by
                  rcases Nat.lt_or_ge j k with hh | hh
                  · exact HJ.out j hh
                  · obtain rfl : j = k := by omega
                    rw [okAt_next HX.out HY.out HZ.out HGOOD.out]; simpa using HXY.out, HBW.out⟩
            case measure => simp [intOf]; omega
          · have hxy' : decide (x ≤ y) = true := by simp; omega
            have HXY := Lib.hid hxy
            clear hxy
            obtain ⟨S, eS⟩ : ∃ S : World → Prop, S = fun w' => w'.cell? ⟨w.heap.size, 0, none⟩ = some (.slice (some ⟨b, off, none⟩) ps.length cap) ∧ w'.cell? ⟨b, off + k * 2, none⟩ = some (.int .i64 x) ∧ w'.cell? ⟨b, off + k * 2 + 1, none⟩ = some (u) ∧ w'.cell? ⟨b, off + (k - 1) * 2, none⟩ = some (.int .i64 y) := ⟨_, rfl⟩
            have mkS : ∀ w' : World, w'.cell? ⟨w.heap.size, 0, none⟩ = some (.slice (some ⟨b, off, none⟩) ps.length cap) → w'.cell? ⟨b, off + k * 2, none⟩ = some (.int .i64 x) → w'.cell? ⟨b, off + k * 2 + 1, none⟩ = some (u) → w'.cell? ⟨b, off + (k - 1) * 2, none⟩ = some (.int .i64 y) → S w' := fun w' g0 g1 g2 g3 => by rw [eS]; exact ⟨g0, g1, g2, g3⟩
            have sS := mkS _ hp d1 d2 d3
            have ne_ : Nonempty (Lex.HW S) := ⟨⟨_, sS⟩⟩
            have exS : ∀ w' : World, S w' → w'.cell? ⟨w.heap.size, 0, none⟩ = some (.slice (some ⟨b, off, none⟩) ps.length cap) ∧ w'.cell? ⟨b, off + k * 2, none⟩ = some (.int .i64 x) ∧ w'.cell? ⟨b, off + k * 2 + 1, none⟩ = some (u) ∧ w'.cell? ⟨b, off + (k - 1) * 2, none⟩ = some (.int .i64 y) := fun w' h => by rw [eS] at h; exact h
            have q0_ : ∀ p : Lex.HW S, p.w.cell? ⟨w.heap.size, 0, none⟩ = some (.slice (some ⟨b, off, none⟩) ps.length cap) := fun p => (exS _ p.ok).1
            have q1_ : ∀ p : Lex.HW S, p.w.cell? ⟨b, off + k * 2, none⟩ = some (.int .i64 x) := fun p => (exS _ p.ok).2.1
            have q2_ : ∀ p : Lex.HW S, p.w.cell? ⟨b, off + k * 2 + 1, none⟩ = some (u) := fun p => (exS _ p.ok).2.2.1
            have q3_ : ∀ p : Lex.HW S, p.w.cell? ⟨b, off + (k - 1) * 2, none⟩ = some (.int .i64 y) := fun p => (exS _ p.ok).2.2.2
            clear eS exS
            have MKS := Lib.hid mkS; clear mkS sS
            refine Lex.wp_region_lex S 27 [([0, 1, 2, 3, 4], some 5), ([6, 7, 8, 9, 10, 11, 12, 13, 14, 15, 16, 17, 18, 19, 20, 21, 22, 23, 24, 25, 26], none)] (by kernel_rfl) (by kernel_rfl) (fun _ _ d _ _ h => by cases d <;> exact h) (MKS.out _ hp d1 d2 d3) ?_
            refine Lex.lexW_some (os := ?_) (o := ?_) (by simp only [List.filterMap_cons, List.filterMap_nil, List.getElem?_toArray, List.getElem?_cons_zero, List.getElem?_cons_succ]; rfl) (by simp only [List.getElem?_toArray, List.getElem?_cons_zero, List.getElem?_cons_succ]; rfl) ?_
            repeat (first | go_big_quiet_step (fail) | quiet_step (fail))
            refine wpQuiet_nil ?_
            intro K hK
            have HK := Lib.hid hK; clear hK
            go_wp2_with fail
            refine (page_any x u ws _ (HU.out.below HB'.out.drew)).mono ?_
            rintro e w2 ⟨rfl, hb2⟩
            rw [hpg]
            have b2 : Below wr.heap.size wr w2 := ((Below.refl _ _).drew).tr hb2
            have HB2 := Lib.hid (HB'.out.tr b2); have HBW := Lib.hid (HB.out.trans (b2.mono (by omega)))
            clear hb2
            go_wp2_with fail
            refine HK.out _ _ (fun _ => MKS.out _ (cell_below b2 hp) (cell_below b2 d1) (cell_below b2 d2) (cell_below b2 d3)) ?_
            clear HK K
            clear b2
            refine Lex.lexW_none (by (repeat (apply Lex.fm_cons; (case h => rfl))); apply Lex.fm_nil) ?_
            repeat (first | go_big_quiet_step (fail) | quiet_step (fail))
            refine wpQuiet_nil (Lex.lexW_nil ?_)
            go_wp2_with fail
            go_ret
            exact ⟨ret_bool (rightB_no hlt (by rw [okAt_next HX.out HY.out HZ.out HGOOD.out]; simpa using HXY.out)), HB2.out⟩
    · by_cases h5 : ps.length ≤ 50000
      · go_wp2_with fail
        go_ret
        exact ⟨ret_bool ((decide_eq_true (by omega)).trans (rightB_yes h5 (fun j hjl => HJ.out j (by omega)))), HB'.out⟩
      · go_wp2_with fail
        go_ret
        exact ⟨ret_bool ((decide_eq_false (by omega)).trans (by symm; simp [rightB]; omega)), HB'.out⟩
end Go.Proofs.Ytgkenbjpmondeaa
