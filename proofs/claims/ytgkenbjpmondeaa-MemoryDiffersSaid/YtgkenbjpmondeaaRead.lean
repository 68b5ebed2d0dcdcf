/- Proved: memory.Read returns the words up to the first that is missing, for pages in order. -/
import Derived.Test.YtgkenbjpmondeaaPlace
import Derived.Test.YtgkenbjpmondeaaOwn
namespace Go.Proofs.Ytgkenbjpmondeaa
open Go.RowKit

theorem IntsOwn.base {w : World} {B B' : Nat} {v : Value} {xs : List Int} (h : IntsOwn w B v xs) (hB : B' ≤ B) : IntsOwn w B' v xs := by
  obtain ⟨⟨h0, h1⟩, h2⟩ := h
  refine ⟨⟨h0, ?_⟩, h2⟩
  rcases h1 with h1 | ⟨g, cap, cur, e, hb, r⟩
  · exact .inl h1
  · exact .inr ⟨g, cap, cur, e, by omega, r⟩
theorem wrap64_i64 (n : Int) : I64 (wrap64 n) := by unfold I64 wrap64; omega

def clampN (n : Int) : Nat := (min (max n 0) 128).toNat
/-- what Read answers: the words up to the first one that is missing -/
def ReadP (ps : List Pg) (addr n : Int) (xs : List Int) (at_ : Int) : Prop :=
  (∀ (j : Nat) (x : Int), xs[j]? = some x → WordP ps (wrap64 (addr + j)) x true) ∧
  ((xs.length = clampN n ∧ at_ = -1) ∨ (xs.length < clampN n ∧ at_ = wrap64 (addr + xs.length) ∧ WordP ps at_ 0 false))
def ReadPost (ps : List Pg) (addr n : Int) (w : World) (e : Ending) (w' : World) : Prop :=
  ∃ (v : Value) (xs : List Int) (at_ : Int), e = .returned (.tuple #[v, .int .i64 at_]) ∧ IntsOwn w' w.heap.size v xs ∧ ReadP ps addr n xs at_ ∧ Below w.heap.size w w'

set_option maxHeartbeats 1000000 in
theorem read_any (v : Value) (ps : List Pg) (addr n : Int) (w : World) (h : PagesAt w v ps) (hg : Good ps) (ha : I64 addr) (hn : I64 n) :
    Calls Try.prog 19 #[.agg #[v], .int .i64 addr, .int .i64 n] w (ReadPost ps addr n w) := by
  have HG := Lib.hid hg; clear hg
  have HW := Lib.hid h; clear h
  have HA := Lib.hid ha; clear ha
  have hc128 : clampN n ≤ 128 := by unfold clampN; omega
  go_enter Try.func19, Try.ntmps19
  go_upto_region 1 with fail
  go_cut [2] (fun s2 wx => s2 = .int .i64 (clampN n) ∧ wx = w.alloc (.cells #[v] 24))
  case first =>
    go_wp2_with fail
    all_goals go_meet
    all_goals exact ⟨by congr 1; unfold clampN; omega, rfl⟩
  case rest =>
    obtain ⟨rfl, rfl⟩ := hcut
    go_wp2_with fail
    go_loopw [8, 16] (fun s i wr => ∃ (k : Nat) (xs : List Int), i = .int .i64 k ∧ xs.length = k ∧ k ≤ clampN n ∧ IntsOwn wr (w.heap.size + 1) s xs ∧
        (∀ (j : Nat) (x : Int), xs[j]? = some x → WordP ps (wrap64 (addr + j)) x true) ∧ Below (w.heap.size + 1) (w.alloc (.cells #[v] 24)) wr) (fun _ i _ => clampN n - (intOf i).toNat)
    case atStart => exact ⟨0, [], rfl, rfl, by omega, IntsOwn.nil _ _, by simp, Below.refl _ _⟩
    case round =>
      obtain ⟨k, xs, rfl, hlen, hk, hown, hall, hb⟩ := hrel
      have hb' : Below w.heap.size w wr := ((Below.refl w.heap.size w).al _).trans (hb.mono (by omega))
      have hsz : w.heap.size < wr.heap.size := by have := hb.size; simp at this; omega
      have hp0 : wr.cell? ⟨w.heap.size, 0, none⟩ = some v := (hb.cell (p := ⟨w.heap.size, 0, none⟩) (by simp)).trans (by simp [go_sem])
      have HB := Lib.hid hb; have HB' := Lib.hid hb'; have HL := Lib.hid hlen; have HO := Lib.hid hown; have HALL := Lib.hid hall
      clear hb hb' hlen hown hall
      by_cases hlt : k < clampN n
      · go_wp2_with fail
        refine (word_any v ps _ wr (HW.out.below HB'.out) HG.out (wrap64_i64 _)).mono ?_
        rintro e w1 ⟨x, ok, rfl, hw, hix, hb1⟩
        have hsz1 := hb1.size
        have Hw := Lib.hid hw; have Hix := Lib.hid hix; have Hb1 := Lib.hid hb1; clear hw hix hb1
        cases ok with
        | false =>
          obtain rfl : x = 0 := by
            rcases Hw.out with h | h
            · exact h.2.1
            · cases h.1
          go_wp2_with fail
          go_ret2
          exact ⟨u8, xs, _, rfl, (HO.out.below Hb1.out).base (by omega), ⟨HALL.out, .inr ⟨by rw [HL.out]; exact hlt, by rw [HL.out], Hw.out⟩⟩, HB'.out.tr Hb1.out⟩
        | true =>
          go_wp2_with (at_builtin; refine app_int _ rfl (.tmp 33) (.tmp 35) rfl (w.heap.size + 1) u8 xs rfl ((HO.out.below Hb1.out).below ((Below.refl _ _).al _)) w1.heap.size x rfl (by simp [go_sem]) Hix.out (by rw [HL.out]; omega) (by simp; omega) ?_; intro v2 w2 hown2 hg2 _; have HO2 := Lib.hid hown2; have HG2 := Lib.hid hg2; clear hown2 hg2)
          go_roundw
          case rel =>
            refine ⟨k + 1, xs ++ [x], by go_num, by simp [HL.out], by omega, HO2.out, ?_, ?_⟩
            · intro j y hy
              rcases Nat.lt_or_ge j xs.length with hj | hj
              · rw [List.getElem?_append_left hj] at hy; exact HALL.out j y hy
              · rw [List.getElem?_append_right hj] at hy
                have h0 : j - xs.length = 0 := by have := (List.getElem?_eq_some_iff.1 hy).1; simp at this; omega
                rw [h0] at hy
                obtain rfl : x = y := by simpa using hy
                obtain rfl : j = k := by have := HL.out; omega
                exact Hw.out
            · refine (HB.out.trans ((Hb1.out.al _).mono (by omega))).grown HG2.out (by simp; omega) ?_
              intro g hg
              exact ((HO.out.below Hb1.out).1.lt g hg).1
          case measure => simp [intOf]; omega
      · go_wp2_with fail
        go_ret2
        exact ⟨u8, xs, -1, rfl, HO.out.base (by omega), ⟨HALL.out, .inl ⟨by rw [HL.out]; omega, rfl⟩⟩, HB'.out⟩
end Go.Proofs.Ytgkenbjpmondeaa
