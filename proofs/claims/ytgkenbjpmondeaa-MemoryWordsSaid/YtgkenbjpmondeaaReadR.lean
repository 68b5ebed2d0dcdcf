/- Proved: debuggerref25.Read returns the words up to the first that is missing, for pages in order. -/
import Derived.Test.YtgkenbjpmondeaaRef
import Derived.Test.YtgkenbjpmondeaaRead
namespace Go.Proofs.Ytgkenbjpmondeaa
open Go.RowKit

set_option maxHeartbeats 1000000 in
theorem rread_any (v : Value) (ps : List Pg) (addr n : Int) (w : World) (h : PagesAt w v ps) (hg : Good ps) (ha : I64 addr) (hn : I64 n) :
    Calls Try.prog 24 #[.agg #[v], .int .i64 addr, .int .i64 n] w (ReadPost ps addr n w) := by
  have HG := Lib.hid hg; clear hg
  have HW := Lib.hid h; clear h
  have HA := Lib.hid ha; clear ha
  have hc128 : clampN n ≤ 128 := by unfold clampN; omega
  go_enter Try.func24, Try.ntmps24
  go_upto_region 2 with fail
  go_cut [2] (fun s2 wx => s2 = .int .i64 (clampN n) ∧ wx = w.alloc (.cells #[v] 24))
  case first =>
    go_wp2_with fail
    all_goals go_meet
    all_goals exact ⟨by congr 1; unfold clampN; omega, rfl⟩
  case rest =>
    obtain ⟨rfl, rfl⟩ := hcut
    go_wp2_with fail
    go_loopw [8, 9] (fun s i wr => ∃ (k : Nat) (xs : List Int), i = .int .i64 k ∧ xs.length = k ∧ k ≤ clampN n ∧ IntsOwn wr (w.heap.size + 1) s xs ∧
        (∀ (j : Nat) (x : Int), xs[j]? = some x → WordP ps (wrap64 (addr + j)) x true) ∧ Below (w.heap.size + 1) (w.alloc (.cells #[v] 24)) wr) (fun _ i _ => clampN n - (intOf i).toNat)
    case atStart => exact ⟨0, [], rfl, rfl, by omega, IntsOwn.nil _ _, by simp, Below.refl _ _⟩
    case round =>
      obtain ⟨k, xs, rfl, hlen, hk, hown, hall, hb⟩ := hrel
      have hb' : Below w.heap.size w wr := ((Below.refl w.heap.size w).al _).trans (hb.mono (by omega))
      have hsz : w.heap.size < wr.heap.size := by have := hb.size; simp at this; omega
      have hp0 : wr.cell? ⟨w.heap.size, 0, none⟩ = some v := (hb.cell (p := ⟨w.heap.size, 0, none⟩) (by simp)).trans (by simp [go_sem])
      have HB := Lib.hid hb; have HB' := Lib.hid hb'; have HL := Lib.hid hlen; have HO := Lib.hid hown; have HALL := Lib.hid hall
      clear hb hb' hlen hown hall
      by_cases hlt : k < clampN n
      · go_wp2_with fail
        refine (rword_any v ps _ wr (HW.out.below HB'.out) HG.out (wrap64_i64 _)).mono ?_
        rintro e w1 ⟨x, ok, rfl, hw, hix, hb1⟩
        have hsz1 := hb1.size
        have Hw := Lib.hid hw; have Hix := Lib.hid hix; have Hb1 := Lib.hid hb1; clear hw hix hb1
        cases ok with
        | false =>
          obtain rfl : x = 0 := by
            rcases Hw.out with h | h
            · exact h.2.1
            · cases h.1
          go_wp2_with fail
          go_ret2
          exact ⟨u8, xs, _, rfl, (HO.out.below Hb1.out).base (by omega), ⟨HALL.out, .inr ⟨by rw [HL.out]; exact hlt, by rw [HL.out], Hw.out⟩⟩, HB'.out.tr Hb1.out⟩
        | true =>
          go_wp2_with (at_builtin; refine app_int _ rfl (.tmp 34) (.tmp 36) rfl (w.heap.size + 1) u8 xs rfl ((HO.out.below Hb1.out).below ((Below.refl _ _).al _)) w1.heap.size x rfl (by simp [go_sem]) Hix.out (by rw [HL.out]; omega) (by simp; omega) ?_; intro v2 w2 hown2 hg2 _; have HO2 := Lib.hid hown2; have HG2 := Lib.hid hg2; clear hown2 hg2)
          go_roundw
          case rel =>
            refine ⟨k + 1, xs ++ [x], by go_num, by simp [HL.out], by omega, HO2.out, ?_, ?_⟩
            · intro j y hy
              rcases Nat.lt_or_ge j xs.length with hj | hj
              · rw [List.getElem?_append_left hj] at hy; exact HALL.out j y hy
              · rw [List.getElem?_append_right hj] at hy
                have h0 : j - xs.length = 0 := by have := (List.getElem?_eq_some_iff.1 hy).1; simp at this; omega
                rw [h0] at hy
                obtain rfl : x = y := by simpa using hy
                obtain rfl : j = k := by have := HL.out; omega
                exact Hw.out
            · refine (HB.out.trans ((Hb1.out.al _).mono (by omega))).grown HG2.out (by simp; omega) ?_
              intro g hg
              exact ((HO.out.below Hb1.out).1.lt g hg).1
          case measure => simp [intOf]; omega
      · go_wp2_with fail
        go_ret2
        exact ⟨u8, xs, -1, rfl, HO.out.base (by omega), ⟨HALL.out, .inl ⟨by rw [HL.out]; omega, rfl⟩⟩, HB'.out⟩
end Go.Proofs.Ytgkenbjpmondeaa
