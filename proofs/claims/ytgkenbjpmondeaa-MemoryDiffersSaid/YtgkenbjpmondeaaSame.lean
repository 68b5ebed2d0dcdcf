/- Proved: debuggerref25.Same tells whether two memories are the same. -/
import Derived.Test.YtgkenbjpmondeaaInts
namespace Go.Proofs.Ytgkenbjpmondeaa
open Go.RowKit Go.Sort

theorem peq_of_all {xs ys : List Pg} (hl : xs.length = ys.length) (h : ∀ j, j < xs.length → xs[j]? = ys[j]?) : true = (xs == ys) := by
  have : xs = ys := List.ext_getElem? fun j => by
    by_cases hj : j < xs.length
    · exact h j hj
    · rw [List.getElem?_eq_none (by omega), List.getElem?_eq_none (by omega)]
  subst this; simp

set_option maxHeartbeats 2000000 in
theorem same_any (u v : Value) (ps qs : List Pg) (w : World) (hx : PagesAt w u ps) (hy : PagesAt w v qs) :
    Calls Try.prog 16 #[.agg #[u], .agg #[v]] w (EqPost (ps == qs) w) := by
  obtain ⟨A, ac, rfl, hac, ham, hA⟩ := hx
  obtain ⟨C, cc, rfl, hcc, hcm, hC⟩ := hy
  have HA := Lib.hid hA; have HC := Lib.hid hC; clear hA hC
  have ha := ham.1; have hc := hcm.1; clear ham hcm
  by_cases hl : ps.length = qs.length
  · have HL := Lib.hid hl
    have hl' : ((ps.length : Int) != (qs.length : Int)) = false := by simp [hl]
    have hln : (ps.length != qs.length) = false := by simp [hl]
    have h1 : ps.length ≤ qs.length := by omega
    have h2 : qs.length ≤ ps.length := by omega
    clear hl
    go_enter Try.func16, Try.ntmps16
    go_wp2_with fail
    go_loopw [5] (fun s wr => ∃ (k : Nat), s = .int .i64 (k : Int) ∧ k ≤ ps.length ∧ (∀ j, j < k → ps[j]? = qs[j]?) ∧
        Below (w.heap.size + 2) ((w.alloc (.cells #[.slice A ps.length ac] 24)).alloc (.cells #[.slice C qs.length cc] 24)) wr) (fun s _ => ps.length - (intOf s).toNat)
    case atStart => exact ⟨0, rfl, by omega, fun j hj => by omega, Below.refl _ _⟩
    case round =>
      obtain ⟨k, rfl, hk, hpre, hb⟩ := hrel
      have hb' : Below w.heap.size w wr := (((Below.refl w.heap.size w).al _).al _).trans (hb.mono (by omega))
      have hsz : w.heap.size + 1 < wr.heap.size := by have := hb.size; simp at this; omega
      have hp0 : wr.cell? ⟨w.heap.size, 0, none⟩ = some (.slice A ps.length ac) := (hb.cell (p := ⟨w.heap.size, 0, none⟩) (by simp)).trans (by simp [go_sem])
      have hp1 : wr.cell? ⟨w.heap.size + 1, 0, none⟩ = some (.slice C qs.length cc) := (hb.cell (p := ⟨w.heap.size + 1, 0, none⟩) (by simp)).trans (by simp [go_sem])
      have HP := Lib.hid hpre; have HB := Lib.hid hb; have HB' := Lib.hid hb'; clear hpre hb hb'
      by_cases hlt : k < ps.length
      · obtain ⟨⟨x, ws⟩, hx⟩ := get_of_lt hlt
        obtain ⟨⟨y, zs⟩, hy⟩ := get_of_lt (show k < qs.length by omega)
        obtain ⟨b, off, s, rfl, hi, c1, c2, hs⟩ := HA.out k x ws hx
        obtain ⟨b', off', t, rfl, hi', c3, c4, ht⟩ := HC.out k y zs hy
        have d1 := cell_below HB'.out c1
        have d2 := cell_below HB'.out c2
        have d3 := cell_below HB'.out c3
        have d4 := cell_below HB'.out c4
        have HX := Lib.hid hx; have HY := Lib.hid hy; have HS := Lib.hid hs; have HT := Lib.hid ht
        clear hx hy c1 c2 c3 c4 hs ht
        have hlt2 : k < qs.length := by omega
        by_cases hxy : x = y
        · have hne : (x != y) = false := by simp [hxy]
          have HXY := Lib.hid hxy; clear hxy
          have cI : ∀ d os, Calls Try.prog 25 #[s, t] (grow (redrawn wr d) os) fun e w'' => e = .returned (.bool (ws == zs)) ∧ ∃ p : Regrown, w'' = grow (redrawn wr p.d) p.os := fun d os =>
            Calls.regrown_of (ints_any s t ws zs _ ((HS.out.below HB'.out).below (below_regrown wr d os)) ((HT.out.below HB'.out).below (below_regrown wr d os)))
          have CI := Lib.hid cI; clear cI
          have e1 := cell_regrown d1; have e2 := cell_regrown d2; have e3 := cell_regrown d3; have e4 := cell_regrown d4; have e5 := cell_regrown hp0; have e6 := cell_regrown hp1
          cases hwz : (ws == zs) with
          | true =>
            have HWZ := Lib.hid hwz
            rw [hwz] at CI
            clear hwz
            go_wp2_with fail
            refine wp_region_quiet_below (by kernel_rfl) (by kernel_rfl) ?_
            repeat (first | go_big_quiet_step ((go_at_call 25; exact CI.out _ _)) | quiet_step ((go_at_call 25; exact CI.out _ _)))
            refine wpQuiet_nil ?_
            intro _ hw'
            obtain ⟨⟨dq, osq⟩, hw''⟩ := hw'
            subst hw''
            have hbq := below_regrown wr dq osq
            clear e1 e2 e3 e4 e5 e6
            generalize grow (redrawn wr dq) osq = w1 at hbq ⊢
            have HBQ := Lib.hid hbq; clear hbq
            go_wp2_with fail
            go_roundw
            case rel => exact ⟨k + 1, by go_num, by omega, fun j hj => by
                rcases Nat.lt_or_ge j k with h | h
                · exact HP.out j h
                · obtain rfl : j = k := by omega
                  rw [HX.out, HY.out, HXY.out, eq_of_beq HWZ.out], HB.out.trans (HBQ.out.mono (by omega))⟩
            case measure => simp [intOf]; omega
          | false =>
            have HWZ := Lib.hid hwz
            rw [hwz] at CI
            clear hwz
            go_wp2_with fail
            refine wp_region_quiet_below (by kernel_rfl) (by kernel_rfl) ?_
            repeat (first | go_big_quiet_step ((go_at_call 25; exact CI.out _ _)) | quiet_step ((go_at_call 25; exact CI.out _ _)))
            refine wpQuiet_nil ?_
            intro _ hw'
            obtain ⟨⟨dq, osq⟩, hw''⟩ := hw'
            subst hw''
            have hbq := below_regrown wr dq osq
            clear e1 e2 e3 e4 e5 e6
            generalize grow (redrawn wr dq) osq = w1 at hbq ⊢
            have HBQ := Lib.hid hbq; clear hbq
            go_wp2_with fail
            go_ret
            refine ⟨ret_bool ?_, HB'.out.tr HBQ.out⟩
            symm
            rw [beq_eq_false_iff_ne]
            rintro rfl
            have := HX.out.symm.trans HY.out
            simp at this
            obtain ⟨_, rfl⟩ := this
            have := HWZ.out
            simp at this
        · have hne : (x != y) = true := by simp [hxy]
          go_wp2_with fail
          go_quiet (fail)
          go_wp2_with fail
          go_ret
          refine ⟨ret_bool ?_, below_drewN HB'.out _⟩
          symm
          rw [beq_eq_false_iff_ne]
          rintro rfl
          have := HX.out.symm.trans HY.out
          simp at this; exact hxy this.1
      · go_wp2_with fail
        go_ret
        exact ⟨ret_bool (peq_of_all HL.out fun j hj => HP.out j (by omega)), HB'.out⟩
  · have hl' : ((ps.length : Int) != (qs.length : Int)) = true := by simp; omega
    have hln : (ps.length != qs.length) = true := by simp [hl]
    go_enter Try.func16, Try.ntmps16
    go_wp2_with fail
    go_ret
    refine ⟨ret_bool ?_, ((Below.refl _ _).al _).al _⟩
    symm
    rw [beq_eq_false_iff_ne]
    rintro rfl
    exact hl rfl
end Go.Proofs.Ytgkenbjpmondeaa
