/- Proved: memory.Of returns the pages of the words, for at most 1048576 words. -/
import Derived.Test.YtgkenbjpmondeaaPages
namespace Go.Proofs.Ytgkenbjpmondeaa
open Go.RowKit

/-- the words lie in no block from lo up to hi: these are local variables -/
def OffAll (ps : List Pg) (us : List Value) (lo hi : Nat) : Prop := ∀ (k : Nat) (x : Int) (ws : List Int) (u : Value), ps[k]? = some (x, ws) → us[k]? = some u → ∀ g, lo ≤ g → g < hi → Off u ws (some g)
theorem OffAll.nil (lo hi : Nat) : OffAll [] [] lo hi := fun k x ws u h => by simp at h
theorem OffAll.snoc {ps : List Pg} {us : List Value} {lo hi : Nat} {x : Int} {ws : List Int} {u : Value} (h : OffAll ps us lo hi) (hl : us.length = ps.length) (hu : ∀ g, lo ≤ g → g < hi → Off u ws (some g)) : OffAll (ps ++ [(x, ws)]) (us ++ [u]) lo hi := by
  intro k y zs u' h1 h2
  rcases Nat.lt_or_ge k ps.length with hk | hk
  · rw [List.getElem?_append_left hk] at h1
    rw [List.getElem?_append_left (by omega)] at h2
    exact h k y zs u' h1 h2
  · rw [List.getElem?_append_right hk] at h1
    rw [List.getElem?_append_right (by omega), hl] at h2
    have e0 : k = ps.length := by have := (List.getElem?_eq_some_iff.1 h1).1; simp at this; omega
    subst e0
    simp at h1 h2
    obtain ⟨rfl, rfl⟩ := h1
    subst h2
    exact hu
theorem grownBy_setCell (w : World) (p : Addr) (u : Value) : w.grownBy (w.setCell p u) (some p.block) :=
  ⟨rfl, rfl, rfl, by simp [World.setCell], fun k _ hne => Below.heap_setCell w p u k (fun e => hne (by rw [e]))⟩
theorem PagesRow.setCell {w : World} {B : Nat} {v : Value} {ps : List Pg} {us : List Value} {p : Addr} {x : Value} (h : PagesRow w B v ps us) {lo hi : Nat} (hp : p.block < B) (ho : OffAll ps us lo hi) (h1 : lo ≤ p.block) (h2 : p.block < hi) : PagesRow (w.setCell p x) B v ps us :=
  h.keep (grownBy_setCell w p x) (.inr fun e => by have := h.lt _ e; omega) (fun k y ws u a b => ho k y ws u a b _ h1 h2)
theorem PagesRow.ne_ {w : World} {B : Nat} {v : Value} {ps : List Pg} {us : List Value} (h : PagesRow w B v ps us) {g : Nat} (hg : g < B) : v.ownBlock ≠ some g := fun e => by
  have := h.lt g e; omega
theorem PagesRow.ne_new {w : World} {B : Nat} {v : Value} {ps : List Pg} {us : List Value} (h : PagesRow w B v ps us) : some w.heap.size ≠ v.ownBlock := fun e => by
  have := h.lt _ e.symm; omega
theorem PagesRow.shape {w : World} {B : Nat} {v : Value} {ps : List Pg} {us : List Value} (h : PagesRow w B v ps us) : ∃ A c, v = .slice A ps.length c := by
  obtain ⟨A, c, hv, _⟩ := h.at_
  exact ⟨A, c, hv⟩
/-- a local variable of one cell -/
def Box (w : World) (g : Nat) (t : TypeId) (v : Value) : Prop := w.heap[g]? = some (.cells #[v] t (0, 0))
theorem Box.cell {w : World} {g : Nat} {t : TypeId} {v : Value} (h : Box w g t v) : w.cell? ⟨g, 0, none⟩ = some v := by
  unfold Box at h; simp [World.cell?, h]
theorem Box.frozen {w : World} {g : Nat} {t : TypeId} {v : Value} (h : Box w g t v) : w.frozen? ⟨g, 0, none⟩ = false := by
  unfold Box at h; simp [World.frozen?, h]
theorem Box.lt {w : World} {g : Nat} {t : TypeId} {v : Value} (h : Box w g t v) : g < w.heap.size := (Array.getElem?_eq_some_iff.1 h).1
theorem Box.new (w : World) (t : TypeId) (v : Value) : Box (w.alloc (.cells #[v] t)) w.heap.size t v := heap_alloc_new w _
theorem Box.below {w w' : World} {B g : Nat} {t : TypeId} {v : Value} (h : Box w g t v) (hb : Below B w w') (hg : g < B) : Box w' g t v := (hb.block g hg).trans h
theorem Box.keep {w w' : World} {g : Nat} {t : TypeId} {v : Value} {row : Option Nat} (h : Box w g t v) (hb : w.grownBy w' row) (hg : some g ≠ row) : Box w' g t v := (hb.block g h.lt hg).trans h
theorem Box.set_ {w : World} {g : Nat} {t : TypeId} {v : Value} (h : Box w g t v) (u : Value) : Box (w.setCell ⟨g, 0, none⟩ u) g t u := by
  unfold Box at h ⊢
  simp [World.setCell, Array.getElem?_modify, h]
theorem Box.far {w : World} {g : Nat} {t : TypeId} {v : Value} (h : Box w g t v) {p : Addr} (hp : g ≠ p.block) (u : Value) : Box (w.setCell p u) g t v := (Below.heap_setCell w p u g hp).trans h
theorem Box.alloc {w : World} {g : Nat} {t : TypeId} {v : Value} (h : Box w g t v) (o : Obj) : Box (w.alloc o) g t v := h.below ((Below.refl _ _).al o) h.lt

def zeros64 : List Value := List.replicate 64 (.int .i64 0)
theorem mk64 (w : World) : (Instr.makeSlice 25 (.int .i64 64) (.int .i64 64)).run Try.prog w = .ok (.slice (some ⟨w.heap.size, 0, none⟩) 64 64) (w.alloc (.cells zeros64.toArray 3)) := by kernel_rfl

def pageOf (ws : List Int) (k : Nat) : Pg := ((64 * k : Nat), ((ws.drop (64 * k)).take 64) ++ List.replicate (64 - min 64 (ws.length - 64 * k)) 0)
def ofL (ws : List Int) : List Pg := (List.range ((ws.length + 63) / 64)).map (pageOf ws)

theorem range_snoc {α : Type} (f : Nat → α) (k : Nat) : (List.range (k + 1)).map f = (List.range k).map f ++ [f k] := by rw [List.range_succ, List.map_append]; rfl
theorem splice_page (ws : List Int) (k : Nat) : splice zeros64 0 (((ws.drop (64 * k)).take 64).map (Value.int .i64)) = (pageOf ws k).2.map (Value.int .i64) := by
  unfold splice pageOf zeros64
  simp only [List.take_zero, List.nil_append, List.map_append, List.map_replicate, List.drop_replicate, List.length_map, List.length_take, List.length_drop, Nat.zero_add]
theorem pageOf_len (ws : List Int) (k : Nat) : (pageOf ws k).2.length = 64 := by unfold pageOf; simp; omega
theorem pageOf_own {w : World} {B g : Nat} {ws : List Int} {k : Nat} (hg : w.heap[g]? = some (.cells (splice zeros64 0 (((ws.drop (64 * k)).take 64).map (Value.int .i64))).toArray 3 (0, 0))) (hB : B ≤ g) (hi : ∀ x ∈ ws, I64 x) :
    IntsOwn w B (.slice (some ⟨g, 0, none⟩) 64 64) (pageOf ws k).2 := by
  rw [splice_page] at hg
  refine ⟨⟨by simp, .inr ⟨g, 64, _, by rw [pageOf_len], hB, hg, by rw [pageOf_len]; omega, by simp [maxLen], by simp [pageOf_len], by simp [List.take_of_length_le]⟩⟩, fun x hx => ?_⟩
  unfold pageOf at hx
  rcases List.mem_append.1 hx with hx | hx
  · exact hi x (List.mem_of_mem_drop (List.mem_of_mem_take hx))
  · obtain ⟨_, rfl⟩ := List.mem_replicate.1 hx
    unfold I64; omega

def OfPost (ws : List Int) (w : World) (e : Ending) (w' : World) : Prop := ∃ v us, e = .returned (.agg #[v]) ∧ PagesRow w' w.heap.size v (ofL ws) us ∧ Below w.heap.size w w'

set_option maxHeartbeats 1000000 in
theorem of_any (v : Value) (ws : List Int) (w : World) (h : IntsAt w v ws) (hl : ws.length ≤ 1048576) :
    Calls Try.prog 17 #[v] w (OfPost ws w) := by
  obtain ⟨A, cap, rfl, hcap, hm, hc⟩ := h
  have Hc := Lib.hid hc; clear hc
  have hm' := hm.1
  clear hm
  go_enter Try.func17, Try.ntmps17
  go_wp2_with fail
  go_loopw [4] (fun s wr => ∃ (k : Nat) (us : List Value) (v : Value), s = .int .i64 (64 * (k : Int)) ∧ k ≤ (ws.length + 63) / 64 ∧ Box wr (w.heap.size + 1) 24 v ∧ Box wr w.heap.size 24 (.slice none 0 0) ∧
      PagesRow wr (w.heap.size + 2) v ((List.range k).map (pageOf ws)) us ∧ OffAll ((List.range k).map (pageOf ws)) us w.heap.size (w.heap.size + 2) ∧ Below w.heap.size w wr) (fun s _ => ws.length + 63 - (intOf s).toNat)
  case atStart =>
    refine ⟨0, [], .slice none 0 0, rfl, by omega, ?_, ?_, PagesRow.nil _ _, OffAll.nil _ _, ((Below.refl _ _).al _).al _⟩
    · have := Box.new (w.alloc (.cells #[.slice none 0 0] 24)) 24 (.slice none 0 0)
      simpa using this
    · exact (Box.new w 24 (.slice none 0 0)).alloc _
  case round =>
    obtain ⟨k, us, v, rfl, hk, hbm, hbr, hrow, hoff, hb⟩ := hrel
    obtain ⟨V, vc, rfl⟩ := hrow.shape
    simp only [List.length_map, List.length_range] at hbm hrow
    have hcm := hbm.cell; have hfm := hbm.frozen; have hlm := hbm.lt
    have hcr := hbr.cell; have hfr := hbr.frozen
    have HBM := Lib.hid hbm; have HBR := Lib.hid hbr; have HROW := Lib.hid hrow; have HOFF := Lib.hid hoff; have HB := Lib.hid hb
    clear hbm hbr hrow hoff hb
    by_cases hlt : 64 * k < ws.length
    · have hmk := mk64
      obtain ⟨x0, hx0⟩ := get_of_lt hlt
      obtain ⟨b, off, rfl, hi', c1⟩ := Hc.out (64 * k) x0 hx0
      clear hi' c1
      have HX0 := Lib.hid hx0; clear hx0
      have hbl := HB.out.size
      obtain ⟨X1, hX1⟩ : ∃ X1, X1 = ((ws.drop (64 * k)).take 64).map (Value.int .i64) := ⟨_, rfl⟩
      have hn1 : X1.length = (ws.length - 64 * k).min 64 := by rw [hX1]; simp; exact Nat.min_comm _ _
      have hfit1 : 0 + X1.length ≤ zeros64.length := by rw [hn1, zeros64, List.length_replicate, Nat.zero_add]; exact Nat.min_le_right _ _
      have hone1 : ∀ v ∈ X1, v.oneCell' = true := by rw [hX1]; intro v hv; obtain ⟨_, _, rfl⟩ := List.mem_map.1 hv; rfl
      have hsrc1 : ∀ (j : Nat) (v : Value), X1[j]? = some v → (wr.alloc (.cells zeros64.toArray 3)).cell? ((⟨b, off + 64 * k, none⟩ : Addr).add j) = some v := by
        intro j v hv
        rw [hX1, List.getElem?_map] at hv
        obtain ⟨y, hy, rfl⟩ := Option.map_eq_some_iff.1 hv
        rw [List.getElem?_take] at hy
        split at hy
        · rw [List.getElem?_drop] at hy
          obtain ⟨b', off', h1, _, h3⟩ := Hc.out _ y hy
          cases h1
          have e : (⟨b, off + 64 * k, none⟩ : Addr).add j = ⟨b, off + 64 * k + j, none⟩ := by unfold Addr.add; split <;> simp_all
          rw [e, Nat.add_assoc]
          exact cell_below (HB.out.al _) h3
        · cases hy
      have HX1 := Lib.hid hX1; have HN1 := Lib.hid hn1; have HF1 := Lib.hid hfit1; have HO1 := Lib.hid hone1; have HS1 := Lib.hid hsrc1
      clear hX1 hn1 hfit1 hone1 hsrc1
      go_wp2_with (with_reducible refine wpList_copy_splice rfl (.tmp 17) (.tmp 20) 25 25 rfl 3 Try.underlying25 (by kernel_rfl) _ _ _ _ _ _ rfl rfl wr.heap.size 0 zeros64 3 (heap_alloc_new _ _) X1 HN1.out (fun _ => ⟨rfl, _, rfl, HS1.out⟩) HF1.out HO1.out wr.heap.size wr ((Below.refl _ _).al _) (Nat.le_refl _) ?_)
      intro w2 hrow2 hb2
      have hcm2 := (HBM.out.below hb2 hlm).cell
      have hlm2 : w.heap.size + 1 < w2.heap.size := Nat.lt_of_lt_of_le hlm hb2.size
      have hwo : IntsOwn w2 (w.heap.size + 2) (.slice (some ⟨wr.heap.size, 0, none⟩) 64 64) (pageOf ws k).2 := pageOf_own (by rw [HX1.out] at hrow2; exact hrow2.out) (by omega) (fun x hx => by
        obtain ⟨j, hj⟩ := List.mem_iff_getElem?.1 hx
        obtain ⟨_, _, _, hi, _⟩ := Hc.out j x hj
        exact hi)
      have HWO := Lib.hid hwo; have HB2 := Lib.hid hb2; have HR2 := Lib.hid hrow2
      clear hwo hb2 hrow2
      go_wp2_with (at_builtin; refine app_page _ rfl (.tmp 23) (.tmp 27) rfl (w.heap.size + 2) (.slice V k vc) ((List.range k).map (pageOf ws)) us rfl ((HROW.out.below HB2.out).below ((Below.refl _ _).al _)) w2.heap.size (64 * (k : Int)) (.slice (some ⟨wr.heap.size, 0, none⟩) 64 64) (pageOf ws k).2 rfl (by simp [go_sem]) (by simp [go_sem]) (by unfold I64; omega) (HWO.out.at_.below ((Below.refl _ _).al _)) (fun _ => HROW.out.ne_new) (by simp; omega) (by simp; omega) ?_; intro v3 w3 hrow3 hg3 hv3; obtain ⟨V3, vc3, hsh⟩ := hrow3.shape; (rw [show ((List.range k).map (pageOf ws) ++ [(64 * (k : Int), (pageOf ws k).2)]).length = k + 1 by simp] at hsh); subst hsh; have hbm3 := ((HBM.out.below HB2.out hlm).alloc _).keep hg3 (HROW.out.ne_ (by omega)).symm; have hcm3 := hbm3.cell; have hfm3 := hbm3.frozen; have hlm3 := hbm3.lt; have HBM3 := Lib.hid hbm3; clear hbm3; have HROW3 := Lib.hid hrow3; have HG3 := Lib.hid hg3; have HV3 := Lib.hid hv3; clear hrow3 hg3 hv3)
      go_roundw
      case rel =>
        have hsh : ∀ g, w.heap.size ≤ g → g < w.heap.size + 2 → Off (.slice (some ⟨wr.heap.size, 0, none⟩) 64 64) (pageOf ws k).2 (some g) := fun g h1 h2 _ => by simp [Value.ownBlock]; omega
        have hoff3 := HOFF.out.snoc (x := 64 * (k : Int)) HROW.out.1 hsh
        have hr3 := HROW3.out.setCell (p := ⟨w.heap.size + 1, 0, none⟩) (x := .slice V3 (k + 1) vc3) (by simp) hoff3 (by simp) (by simp)
        have e : (List.range k).map (pageOf ws) ++ [(64 * (k : Int), (pageOf ws k).2)] = (List.range (k + 1)).map (pageOf ws) := by
          rw [range_snoc]; congr 2
        rw [e] at hr3 hoff3
        exact ⟨k + 1, _, _, by congr 1, by omega, HBM3.out.set_ _, ((((HBR.out.below HB2.out (by omega)).alloc _).keep HG3.out (HROW.out.ne_ (by omega)).symm).far (by simp) _), hr3, hoff3,
          ((((HB.out.tr HB2.out).al _).grown HG3.out (by simp; omega) (fun g hg => by have := (HROW.out.lt g hg).1; omega)).setCell (by simp) _)⟩
      case measure => simp [intOf]; omega
    · go_wp2_with fail
      have hcS := (HBR.out.set_ (.slice V k vc)).cell
      refine bodyPost_ret (v := .agg #[.slice V k vc]) ?_ rfl ?_
      · simp [results, Try.results17, go_sem, hcS]
      refine ⟨_, us, rfl, ?_, HB.out.setCell (Nat.le_refl _) _⟩
      have e : (ws.length + 63) / 64 = k := by omega
      unfold ofL
      rw [e]
      exact (HROW.out.setCell (by simp) HOFF.out (by simp) (by simp)).base (by omega)
end Go.Proofs.Ytgkenbjpmondeaa
