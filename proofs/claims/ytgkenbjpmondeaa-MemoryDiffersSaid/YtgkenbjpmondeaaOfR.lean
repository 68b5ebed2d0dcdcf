/- Proved: debuggerref25.Of returns the pages of the words, for at most 1048576 words. -/
import Derived.Test.YtgkenbjpmondeaaOf
namespace Go.Proofs.Ytgkenbjpmondeaa
open Go.RowKit

set_option maxHeartbeats 1000000 in
theorem rof_any (v : Value) (ws : List Int) (w : World) (h : IntsAt w v ws) (hl : ws.length ≤ 1048576) :
    Calls Try.prog 18 #[v] w (OfPost ws w) := by
  obtain ⟨A, cap, rfl, hcap, hm, hc⟩ := h
  have Hc := Lib.hid hc; clear hc
  have hm' := hm.1
  clear hm
  go_enter Try.func18, Try.ntmps18
  go_wp2_with fail
  go_loopw [4] (fun s wr => ∃ (k : Nat) (us : List Value) (v : Value), s = .int .i64 (64 * (k : Int)) ∧ k ≤ (ws.length + 63) / 64 ∧ Box wr (w.heap.size + 1) 24 v ∧ Box wr w.heap.size 24 (.slice none 0 0) ∧
      PagesRow wr (w.heap.size + 2) v ((List.range k).map (pageOf ws)) us ∧ OffAll ((List.range k).map (pageOf ws)) us w.heap.size (w.heap.size + 2) ∧ Below w.heap.size w wr) (fun s _ => ws.length + 63 - (intOf s).toNat)
  case atStart =>
    refine ⟨0, [], .slice none 0 0, rfl, by omega, ?_, ?_, PagesRow.nil _ _, OffAll.nil _ _, ((Below.refl _ _).al _).al _⟩
    · have := Box.new (w.alloc (.cells #[.slice none 0 0] 24)) 24 (.slice none 0 0)
      simpa using this
    · exact (Box.new w 24 (.slice none 0 0)).alloc _
  case round =>
    obtain ⟨k, us, v, rfl, hk, hbm, hbr, hrow, hoff, hb⟩ := hrel
    obtain ⟨V, vc, rfl⟩ := hrow.shape
    simp only [List.length_map, List.length_range] at hbm hrow
    have hcm := hbm.cell; have hfm := hbm.frozen; have hlm := hbm.lt
    have hcr := hbr.cell; have hfr := hbr.frozen
    have HBM := Lib.hid hbm; have HBR := Lib.hid hbr; have HROW := Lib.hid hrow; have HOFF := Lib.hid hoff; have HB := Lib.hid hb
    clear hbm hbr hrow hoff hb
    by_cases hlt : 64 * k < ws.length
    · have hmk := mk64
      obtain ⟨x0, hx0⟩ := get_of_lt hlt
      obtain ⟨b, off, rfl, hi', c1⟩ := Hc.out (64 * k) x0 hx0
      clear hi' c1
      have HX0 := Lib.hid hx0; clear hx0
      have hbl := HB.out.size
      obtain ⟨X1, hX1⟩ : ∃ X1, X1 = ((ws.drop (64 * k)).take 64).map (Value.int .i64) := ⟨_, rfl⟩
      have hn1 : X1.length = (ws.length - 64 * k).min 64 := by rw [hX1]; simp; exact Nat.min_comm _ _
      have hfit1 : 0 + X1.length ≤ zeros64.length := by rw [hn1, zeros64, List.length_replicate, Nat.zero_add]; exact Nat.min_le_right _ _
      have hone1 : ∀ v ∈ X1, v.oneCell' = true := by rw [hX1]; intro v hv; obtain ⟨_, _, rfl⟩ := List.mem_map.1 hv; rfl
      have hsrc1 : ∀ (j : Nat) (v : Value), X1[j]? = some v → (wr.alloc (.cells zeros64.toArray 3)).cell? ((⟨b, off + 64 * k, none⟩ : Addr).add j) = some v := by
        intro j v hv
        rw [hX1, List.getElem?_map] at hv
        obtain ⟨y, hy, rfl⟩ := Option.map_eq_some_iff.1 hv
        rw [List.getElem?_take] at hy
        split at hy
        · rw [List.getElem?_drop] at hy
          obtain ⟨b', off', h1, _, h3⟩ := Hc.out _ y hy
          cases h1
          have e : (⟨b, off + 64 * k, none⟩ : Addr).add j = ⟨b, off + 64 * k + j, none⟩ := by unfold Addr.add; split <;> simp_all
          rw [e, Nat.add_assoc]
          exact cell_below (HB.out.al _) h3
        · cases hy
      have HX1 := Lib.hid hX1; have HN1 := Lib.hid hn1; have HF1 := Lib.hid hfit1; have HO1 := Lib.hid hone1; have HS1 := Lib.hid hsrc1
      clear hX1 hn1 hfit1 hone1 hsrc1
      go_wp2_with (with_reducible refine wpList_copy_splice rfl (.tmp 17) (.tmp 20) 25 25 rfl 3 Try.underlying25 (by kernel_rfl) _ _ _ _ _ _ rfl rfl wr.heap.size 0 zeros64 3 (heap_alloc_new _ _) X1 HN1.out (fun _ => ⟨rfl, _, rfl, HS1.out⟩) HF1.out HO1.out wr.heap.size wr ((Below.refl _ _).al _) (Nat.le_refl _) ?_)
      intro w2 hrow2 hb2
      have hcm2 := (HBM.out.below hb2 hlm).cell
      have hlm2 : w.heap.size + 1 < w2.heap.size := Nat.lt_of_lt_of_le hlm hb2.size
      have hwo : IntsOwn w2 (w.heap.size + 2) (.slice (some ⟨wr.heap.size, 0, none⟩) 64 64) (pageOf ws k).2 := pageOf_own (by rw [HX1.out] at hrow2; exact hrow2.out) (by omega) (fun x hx => by
        obtain ⟨j, hj⟩ := List.mem_iff_getElem?.1 hx
        obtain ⟨_, _, _, hi, _⟩ := Hc.out j x hj
        exact hi)
      have HWO := Lib.hid hwo; have HB2 := Lib.hid hb2; have HR2 := Lib.hid hrow2
      clear hwo hb2 hrow2
      go_wp2_with (at_builtin; refine app_page _ rfl (.tmp 23) (.tmp 27) rfl (w.heap.size + 2) (.slice V k vc) ((List.range k).map (pageOf ws)) us rfl ((HROW.out.below HB2.out).below ((Below.refl _ _).al _)) w2.heap.size (64 * (k : Int)) (.slice (some ⟨wr.heap.size, 0, none⟩) 64 64) (pageOf ws k).2 rfl (by simp [go_sem]) (by simp [go_sem]) (by unfold I64; omega) (HWO.out.at_.below ((Below.refl _ _).al _)) (fun _ => HROW.out.ne_new) (by simp; omega) (by simp; omega) ?_; intro v3 w3 hrow3 hg3 hv3; obtain ⟨V3, vc3, hsh⟩ := hrow3.shape; (rw [show ((List.range k).map (pageOf ws) ++ [(64 * (k : Int), (pageOf ws k).2)]).length = k + 1 by simp] at hsh); subst hsh; have hbm3 := ((HBM.out.below HB2.out hlm).alloc _).keep hg3 (HROW.out.ne_ (by omega)).symm; have hcm3 := hbm3.cell; have hfm3 := hbm3.frozen; have hlm3 := hbm3.lt; have HBM3 := Lib.hid hbm3; clear hbm3; have HROW3 := Lib.hid hrow3; have HG3 := Lib.hid hg3; have HV3 := Lib.hid hv3; clear hrow3 hg3 hv3)
      go_roundw
      case rel =>
        have hsh : ∀ g, w.heap.size ≤ g → g < w.heap.size + 2 → Off (.slice (some ⟨wr.heap.size, 0, none⟩) 64 64) (pageOf ws k).2 (some g) := fun g h1 h2 _ => by simp [Value.ownBlock]; omega
        have hoff3 := HOFF.out.snoc (x := 64 * (k : Int)) HROW.out.1 hsh
        have hr3 := HROW3.out.setCell (p := ⟨w.heap.size + 1, 0, none⟩) (x := .slice V3 (k + 1) vc3) (by simp) hoff3 (by simp) (by simp)
        have e : (List.range k).map (pageOf ws) ++ [(64 * (k : Int), (pageOf ws k).2)] = (List.range (k + 1)).map (pageOf ws) := by
          rw [range_snoc]; congr 2
        rw [e] at hr3 hoff3
        exact ⟨k + 1, _, _, by congr 1, by omega, HBM3.out.set_ _, ((((HBR.out.below HB2.out (by omega)).alloc _).keep HG3.out (HROW.out.ne_ (by omega)).symm).far (by simp) _), hr3, hoff3,
          ((((HB.out.tr HB2.out).al _).grown HG3.out (by simp; omega) (fun g hg => by have := (HROW.out.lt g hg).1; omega)).setCell (by simp) _)⟩
      case measure => simp [intOf]; omega
    · go_wp2_with fail
      have hcS := (HBR.out.set_ (.slice V k vc)).cell
      refine bodyPost_ret (v := .agg #[.slice V k vc]) ?_ rfl ?_
      · simp [results, Try.results18, go_sem, hcS]
      refine ⟨_, us, rfl, ?_, HB.out.setCell (Nat.le_refl _) _⟩
      have e : (ws.length + 63) / 64 = k := by omega
      unfold ofL
      rw [e]
      exact (HROW.out.setCell (by simp) HOFF.out (by simp) (by simp)).base (by omega)

end Go.Proofs.Ytgkenbjpmondeaa
