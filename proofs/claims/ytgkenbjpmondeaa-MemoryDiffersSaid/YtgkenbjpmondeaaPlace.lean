/- Proved: memory.place and memory.Word answer where an address lies and the word there, for pages in order. -/
import Derived.Test.YtgkenbjpmondeaaSearch
namespace Go.Proofs.Ytgkenbjpmondeaa
open Go.RowKit

theorem base_of {ps : List Pg} {i : Nat} {x : Int} {ws : List Int} (h : ps[i]? = some (x, ws)) : (ps.getD i (0, [])).1 = x := by
  rw [List.getD_eq_getElem?_getD, h]; rfl

def PlacePost (ps : List Pg) (addr : Int) (w : World) (e : Ending) (w' : World) : Prop :=
  ∃ (i k : Int) (ok : Bool), e = .returned (.tuple #[.int .i64 i, .int .i64 k, .bool ok]) ∧ PlaceP ps addr i k ok ∧ Below w.heap.size w w'

set_option maxHeartbeats 1000000 in
theorem place_any (v : Value) (ps : List Pg) (addr : Int) (w : World) (h : PagesAt w v ps) (hg : Good ps) (ha : I64 addr) :
    Calls Try.prog 33 #[.agg #[v], .int .i64 addr] w (PlacePost ps addr w) := by
  obtain ⟨A, cap, rfl, hl, hm, hc⟩ := h
  have hlen := hg.1
  unfold I64 at ha
  have HG := Lib.hid hg; clear hg
  have Hc := Lib.hid hc; clear hc
  go_enter Try.func33, Try.ntmps33
  go_wp2_with fail
  refine (search_any ps.length w.heap.size (w.heap.size + 1) (fun i => decide (addr < (ps.getD i (0, [])).1)) _ (by omega) ?hf).mono ?_
  case hf =>
    intro i hi k
    obtain ⟨⟨x, ws⟩, hx⟩ := get_of_lt hi
    obtain ⟨b, off, u, rfl, hi', c1, c2, hu⟩ := Hc.out i x ws hx
    have hb := World.block_lt_of_cell? _ _ c1
    refine (placeLess_any i ps.length cap b off _ _ x addr _ hi (by simp [go_sem]) (by simp [go_sem]) ?_).mono ?_
    · have : b < w.heap.size := hb
      simp [go_sem, *]
    · rintro e w' ⟨rfl, h2⟩
      exact ⟨by rw [base_of hx], h2⟩
  rintro e w' ⟨r, rfl, hr1, hr2, hr3, q, rfl⟩
  have HR2 := Lib.hid hr2; have HR3 := Lib.hid hr3; clear hr2 hr3
  by_cases hr0 : r = 0
  · have hr0' : r ≤ 0 := by omega
    have HR0 := Lib.hid hr0; clear hr0
    go_wp2
    go_ret3
    refine ⟨0, 0, false, rfl, place_none HG.out ?_, below_drewN (((Below.refl _ _).al _).al _) _⟩
    have h3 := HR3.out
    rw [HR0.out] at h3
    rcases h3 with h3 | h3
    · exact .inl h3
    · rcases Nat.eq_zero_or_pos ps.length with h0 | h0
      · exact .inl h0.symm
      · obtain ⟨⟨y, zs⟩, hy⟩ := get_of_lt h0
        rw [base_of hy] at h3
        exact .inr ⟨y, zs, hy, by simpa using h3⟩
  · have hr1' : 1 ≤ r := by omega
    obtain ⟨⟨x, ws⟩, hx⟩ := get_of_lt (show r - 1 < ps.length by omega)
    obtain ⟨b, off, u, rfl, hi', c1, c2, hu⟩ := Hc.out (r - 1) x ws hx
    obtain ⟨U, ucap, rfl, hul, hum, huc⟩ := hu
    have hbl : b < w.heap.size := World.block_lt_of_cell? _ _ c1
    have hws := (HG.out.2.1 _ _ _ hx).2.2.2
    have hx0 := (HG.out.2.1 _ _ _ hx).1
    have hx1 := (HG.out.2.1 _ _ _ hx).2.1
    have HX := Lib.hid hx; clear hx
    have hxa : x ≤ addr := by
      rcases HR2.out with h | h
      · omega
      · rw [base_of HX.out] at h; simpa using h
    rw [hws] at c2
    clear huc
    have HW := Lib.hid hws; clear hws
    by_cases h64 : addr - x < 64
    · go_wp2
      go_quiet (fail)
      go_wp2
      go_ret3
      refine ⟨(r : Int) - 1, addr - x, true, rfl, ?_, below_drewN (((Below.refl _ _).al _).al _) _⟩
      have := place_in HX.out hxa h64
      rwa [show ((r - 1 : Nat) : Int) = (r : Int) - 1 by omega] at this
    · go_wp2
      go_quiet (fail)
      go_wp2
      go_ret3
      refine ⟨0, 0, false, rfl, place_out HG.out HX.out hxa (by omega) ?_, below_drewN (((Below.refl _ _).al _).al _) _⟩
      rw [show r - 1 + 1 = r by omega]
      rcases HR3.out with h3 | h3
      · exact .inl h3
      · rcases Nat.eq_or_lt_of_le hr1 with h0 | h0
        · exact .inl h0
        · obtain ⟨⟨y, zs⟩, hy⟩ := get_of_lt h0
          rw [base_of hy] at h3
          exact .inr ⟨y, zs, hy, by simpa using h3⟩

/-- what a read at an address answers -/
def WordP (ps : List Pg) (addr : Int) (x : Int) (ok : Bool) : Prop :=
  (ok = false ∧ x = 0 ∧ ∀ (j : Nat) (y : Int) (ws : List Int), ps[j]? = some (y, ws) → ¬ (y ≤ addr ∧ addr - y < 64)) ∨
  (ok = true ∧ ∃ (j n : Nat) (y : Int) (ws : List Int), ps[j]? = some (y, ws) ∧ addr = y + n ∧ n < 64 ∧ ws[n]? = some x)
def WordPost (ps : List Pg) (addr : Int) (w : World) (e : Ending) (w' : World) : Prop :=
  ∃ (x : Int) (ok : Bool), e = .returned (.tuple #[.int .i64 x, .bool ok]) ∧ WordP ps addr x ok ∧ I64 x ∧ Below w.heap.size w w'

set_option maxHeartbeats 1000000 in
theorem word_any (v : Value) (ps : List Pg) (addr : Int) (w : World) (h : PagesAt w v ps) (hg : Good ps) (ha : I64 addr) :
    Calls Try.prog 20 #[.agg #[v], .int .i64 addr] w (WordPost ps addr w) := by
  have hW := h
  obtain ⟨A, cap, rfl, hl, hm, hc⟩ := h
  have hlen := hg.1
  have HG := Lib.hid hg; clear hg
  have Hc := Lib.hid hc; clear hc
  have HW := Lib.hid hW; clear hW
  have HA := Lib.hid ha; clear ha
  go_enter Try.func20, Try.ntmps20
  go_wp2_with fail
  refine (place_any _ ps addr _ (HW.out.below ((Below.refl _ _).al _)) HG.out HA.out).mono ?_
  rintro e w' ⟨i, k, ok, rfl, hp, hb⟩
  have hb' := ((Below.refl _ _).al _).tr hb
  have hp0 : w'.cell? ⟨w.heap.size, 0, none⟩ = some (.slice A ps.length cap) := (hb.cell (p := ⟨w.heap.size, 0, none⟩) (by simp)).trans (by simp [go_sem])
  rcases hp with ⟨rfl, rfl, rfl, hno⟩ | ⟨rfl, j, n, x, ws, rfl, rfl, hj, haddr, hn⟩
  · have HN := Lib.hid hno; clear hno
    have HB := Lib.hid hb; have HB' := Lib.hid hb'; clear hb hb'
    go_wp2_with fail
    go_ret2
    exact ⟨0, false, rfl, .inl ⟨rfl, rfl, HN.out⟩, by unfold I64; omega, HB'.out⟩
  · obtain ⟨b, off, u, rfl, hi', c1, c2, hu⟩ := Hc.out j x ws hj
    obtain ⟨U, ucap, rfl, hul, hum, huc⟩ := hu
    have hws := (HG.out.2.1 _ _ _ hj).2.2.2
    obtain ⟨y, hy⟩ := get_of_lt (show n < ws.length by omega)
    obtain ⟨bu, ou, rfl, hiy, cy⟩ := huc n y hy
    have hjl : j < ps.length := (List.getElem?_eq_some_iff.1 hj).1
    have d1 := cell_below hb' c2
    have d2 := cell_below hb' cy
    rw [hws] at d1
    have HJ := Lib.hid hj; have HY := Lib.hid hy; have HA' := Lib.hid haddr
    have HB' := Lib.hid hb'
    clear c1 c2 huc hws cy hj hy haddr hb hb'
    go_wp2_with fail
    go_ret2
    exact ⟨y, true, rfl, .inr ⟨rfl, j, n, x, ws, HJ.out, HA'.out, hn, HY.out⟩, hiy, HB'.out⟩
end Go.Proofs.Ytgkenbjpmondeaa
