/- Proved: memory.With returns the memory with another word at the address, and whether the address is there, for pages in order. -/
import Derived.Test.YtgkenbjpmondeaaClone
import Derived.Test.YtgkenbjpmondeaaPlace
namespace Go.Proofs.Ytgkenbjpmondeaa
open Go.RowKit

def WithP (ps : List Pg) (addr word : Int) (out : List Pg) (ok : Bool) : Prop :=
  (ok = false ∧ out = ps ∧ ∀ (j : Nat) (x : Int) (ws : List Int), ps[j]? = some (x, ws) → ¬ (x ≤ addr ∧ addr - x < 64)) ∨
  (ok = true ∧ ∃ (j n : Nat) (x : Int) (ws : List Int), ps[j]? = some (x, ws) ∧ addr = x + n ∧ n < 64 ∧ out = ps.set j (x, ws.set n word))
def WithPost (ps : List Pg) (addr word : Int) (w : World) (e : Ending) (w' : World) : Prop :=
  ∃ v out ok, e = .returned (.tuple #[.agg #[v], .bool ok]) ∧ WithP ps addr word out ok ∧ PagesAt w' v out ∧ Below w.heap.size w w'

/-- a word is written into a deep copy -/
theorem Deep.write {w : World} {B j n r c : Nat} {v : Value} {ps : List Pg} {us : List Value} {x word : Int} {ws : List Int} (h : Deep w B v ps us) (hj : ps[j]? = some (x, ws)) (hu : us[j]? = some (.slice (some ⟨r, 0, none⟩) ws.length c)) (hn : n < ws.length) (hw : I64 word) :
    PagesAt (w.setCell ⟨r, n, none⟩ (.int .i64 word)) v (ps.set j (x, ws.set n word)) := by
  obtain ⟨hrow, hown, hpw⟩ := h
  have hgr := grownBy_setCell w ⟨r, n, none⟩ (.int .i64 word)
  obtain ⟨A, cap, rfl, hl, hm, hcell⟩ := hrow.at_
  have hjl := (List.getElem?_eq_some_iff.1 hj).1
  obtain ⟨hoj, hnej⟩ := hown j x ws _ hj hu
  refine ⟨A, cap, by simp, by simpa using hl, hm, fun k y zs hy => ?_⟩
  obtain ⟨g, cap', u0, e0, hu0, hi0, q1, q2, q3, hBg⟩ : ∃ g cap' u0, Value.slice A ps.length cap = .slice (some ⟨g, 0, none⟩) ps.length cap' ∧ us[k]? = some u0 ∧ I64 (ps.getD k (0, [])).1 ∧ w.cell? ⟨g, k * 2, none⟩ = some (.int .i64 (ps.getD k (0, [])).1) ∧ w.cell? ⟨g, k * 2 + 1, none⟩ = some u0 ∧ IntsAt w u0 (ps.getD k (0, [])).2 ∧ B ≤ g := by
    have hk : k < ps.length := by have := (List.getElem?_eq_some_iff.1 hy).1; simpa using this
    obtain ⟨⟨y', zs'⟩, hy'⟩ := get_of_lt hk
    have := hrow.get hy'
    rwa [List.getD_eq_getElem?_getD, hy']
  have hgA : A = some ⟨g, 0, none⟩ := by injection e0
  subst hgA
  have hne : (⟨g, k * 2, none⟩ : Addr).block ≠ r := by
    intro e
    rcases hnej with h | h
    · simp [Value.ownBlock] at h
    · simp [Value.ownBlock] at h; exact h e.symm
  have c1 : (w.setCell ⟨r, n, none⟩ (.int .i64 word)).cell? ⟨g, k * 2, none⟩ = some (.int .i64 (ps.getD k (0, [])).1) := hgr.cell q1 (by simpa using hne)
  have c2 : (w.setCell ⟨r, n, none⟩ (.int .i64 word)).cell? ⟨g, k * 2 + 1, none⟩ = some u0 := hgr.cell q2 (by simpa using hne)
  by_cases hkj : k = j
  · subst hkj
    rw [List.getElem?_set_self hjl] at hy
    simp at hy
    obtain ⟨rfl, rfl⟩ := hy
    have ex : ps.getD k (0, []) = (x, ws) := by rw [List.getD_eq_getElem?_getD, hj]; rfl
    rw [ex] at c1 hi0
    rw [hu] at hu0
    obtain rfl : Value.slice (some ⟨r, 0, none⟩) ws.length c = u0 := by simpa using hu0
    refine ⟨g, 0, _, rfl, hi0, by simpa using c1, by simpa using c2, ?_⟩
    obtain ⟨R, cc, e1, hl1, hm1, hc1⟩ := hoj.at_
    injection e1 with e1 e2 e3
    subst e1 e3
    refine ⟨_, _, by simp, by simpa using hl1, hm1, fun i z hz => ?_⟩
    have hil : i < ws.length := by have := (List.getElem?_eq_some_iff.1 hz).1; simpa using this
    obtain ⟨z', hz'⟩ := get_of_lt hil
    obtain ⟨b, off, e4, hiz, hcz⟩ := hc1 i z' hz'
    injection e4 with e4
    injection e4 with e4 e5
    subst e4 e5
    by_cases hin : i = n
    · subst hin
      rw [List.getElem?_set_self hil] at hz
      obtain rfl : word = z := by simpa using hz
      refine ⟨r, 0, rfl, hw, ?_⟩
      rw [Nat.zero_add] at hcz ⊢
      exact World.cell?_setCell_same w _ _ hcz
    · rw [List.getElem?_set_ne (Ne.symm hin), hz'] at hz
      obtain rfl : z' = z := by simpa using hz
      refine ⟨r, 0, rfl, hiz, ?_⟩
      rw [World.cell?_setCell_other _ _ _ _ (by simp <;> omega)]
      exact hcz
  · rw [List.getElem?_set_ne (Ne.symm hkj)] at hy
    have ex : ps.getD k (0, []) = (y, zs) := by rw [List.getD_eq_getElem?_getD, hy]; rfl
    rw [ex] at c1 hi0 q3
    refine ⟨g, 0, u0, rfl, hi0, by simpa using c1, by simpa using c2, q3.keep hgr (fun hz => ?_)⟩
    obtain ⟨b0, hb0, _⟩ := q3.lt hz
    intro e
    rw [hb0] at e
    simp at e
    subst e
    rcases Nat.lt_or_ge k j with h | h
    · rcases hpw k j _ _ h hu0 hu with h1 | h1
      · rw [hb0] at h1; cases h1
      · rw [hb0] at h1; simp [Value.ownBlock] at h1
    · rcases hpw j k _ _ (by omega) hu hu0 with h1 | h1
      · simp [Value.ownBlock] at h1
      · rw [hb0] at h1; simp [Value.ownBlock] at h1

theorem goodSmall {ps : List Pg} (h : Good ps) : Small ps := ⟨by have := h.1; omega, fun k x ws hx => by have := (h.2.1 k x ws hx).2.2.2; omega⟩
theorem setCell_comm (w : World) (a b : Addr) (x y : Value) (h : a.block ≠ b.block) : (w.setCell a x).setCell b y = (w.setCell b y).setCell a x := by
  unfold World.setCell
  simp only [World.mk.injEq, and_true]
  apply Array.ext_getElem?
  intro i
  simp only [Array.getElem?_modify]
  by_cases h1 : a.block = i
  · by_cases h2 : b.block = i
    · exact absurd (h1.trans h2.symm) h
    · simp [h1, h2]
  · simp [h1]
/-- the two variables at the start of With -/
theorem with_start (w : World) (A D : Value) : Box ((w.alloc (.cells #[A] 24)).alloc (.cells #[D] 24)) w.heap.size 24 A ∧ Box ((w.alloc (.cells #[A] 24)).alloc (.cells #[D] 24)) (w.heap.size + 1) 24 D := by
  refine ⟨(Box.new _ _ _).alloc _, ?_⟩
  have := Box.new (w.alloc (.cells #[A] 24)) 24 D
  simpa using this

set_option maxHeartbeats 2000000 in
theorem with_any (v : Value) (ps : List Pg) (addr word : Int) (w : World) (h : PagesAt w v ps) (hg : Good ps) (ha : I64 addr) (hw : I64 word) :
    Calls Try.prog 22 #[.agg #[v], .int .i64 addr, .int .i64 word] w (WithPost ps addr word w) := by
  have HPA := Lib.hid h; have HG := Lib.hid hg; have HA := Lib.hid ha; have HW := Lib.hid hw
  obtain ⟨A, cap, rfl, -, -, -⟩ := h
  clear hg ha hw
  have HST := Lib.hid (with_start w (.slice A ps.length cap) (.slice none 0 0))
  go_enter Try.func22, Try.ntmps22
  go_wp2_with fail
  refine (clone_any _ ps _ (HPA.out.below (((Below.refl _ _).al _).al _)) (goodSmall HG.out)).mono ?_
  rintro e w1 ⟨cv, us, rfl, hd, hb1⟩
  obtain ⟨C, cc, rfl⟩ := hd.1.shape
  have hbr := HST.out.2.below hb1 (by simp <;> omega)
  have hB1 := (((Below.refl w.heap.size w).al _).al _).tr hb1
  have hs1 : w.heap.size + 2 ≤ w1.heap.size := by have := hb1.size; simp at this; omega
  have hd1 : Deep w1 (w.heap.size + 2) (.slice C ps.length cc) ps us := by simpa using hd
  have HD := Lib.hid hd1; have HBR := Lib.hid hbr; have HB1 := Lib.hid hB1
  clear hd hd1 hbr hB1 hb1 HST
  go_wp2_with fail
  refine (place_any _ ps addr _ (HD.out.1.at_.below ((Below.refl _ _).al _)) HG.out HA.out).mono ?_
  rintro e w2 ⟨i, k, ok, rfl, hp, hb2⟩
  have hbx := (Box.new w1 24 (.slice C ps.length cc)).below hb2 (by simp)
  have hB2 : Below w1.heap.size w1 w2 := ((Below.refl _ _).al _).tr hb2
  have hbr2 := HBR.out.below hB2 (by omega)
  have cx := hbx.cell; have cr := hbr2.cell; have fr := hbr2.frozen; have lr := hbr2.lt
  have HD2 := Lib.hid (HD.out.below hB2); have HBX := Lib.hid hbx; have HBR2 := Lib.hid hbr2; have HB2 := Lib.hid (HB1.out.tr hB2)
  clear hbx hbr2 hb2 hB2
  rcases hp with ⟨rfl, rfl, rfl, hno⟩ | ⟨rfl, j, n, x, ws, rfl, rfl, hj, haddr, hn⟩
  · have HNO := Lib.hid hno; clear hno
    go_wp2_with fail
    have hcS := (HBR2.out.set_ (.slice C ps.length cc)).cell
    refine bodyPost_ret (v := .tuple #[.agg #[.slice C ps.length cc], .bool false]) ?_ rfl ?_
    · simp [results, Try.results22, go_sem, hcS]
    exact ⟨_, ps, false, rfl, .inl ⟨rfl, rfl, HNO.out⟩, (HD2.out.setCell (p := ⟨w.heap.size + 1, 0, none⟩) (by simp)).1.at_, HB2.out.setCell (by simp) _⟩
  · have hws := (HG.out.2.1 _ _ _ hj).2.2.2
    have hjl : j < ps.length := (List.getElem?_eq_some_iff.1 hj).1
    obtain ⟨g, cc', u, e1, hu, hi, p1, p2, hui, hBg⟩ := HD2.out.1.get hj
    obtain ⟨rfl, rfl⟩ : C = some ⟨g, 0, none⟩ ∧ cc = cc' := by simpa using e1
    obtain ⟨hun, hune⟩ := HD2.out.2.1 j x ws u hj hu
    have hsh : ∃ r c, u = .slice (some ⟨r, 0, none⟩) ws.length c ∧ w.heap.size + 2 ≤ r ∧ r < w2.heap.size ∧ w2.heap[r]? ≠ none ∧ w2.frozen? ⟨r, n, none⟩ = false := by
      rcases hun.1.2 with ⟨_, h0⟩ | ⟨r, c, cur, e, hB, hh, _⟩
      · omega
      · exact ⟨r, c, e, hB, (Array.getElem?_eq_some_iff.1 hh).1, by rw [hh]; simp, by simp [World.frozen?, hh]⟩
    obtain ⟨r, c, rfl, hrB, hrl, -, hfr⟩ := hsh
    have hr1 : r < w1.heap.size := ((HD.out.2.1 j x ws _ hj hu).1.lt r rfl).2
    obtain ⟨y, hy⟩ := get_of_lt (show n < ws.length by omega)
    obtain ⟨R, rc, e2, _, _, hrc⟩ := hui
    obtain ⟨b, off, e3, _, cy⟩ := hrc n y hy
    obtain ⟨rfl, rfl⟩ : R = some ⟨r, 0, none⟩ ∧ rc = c := by simpa [eq_comm] using e2
    obtain ⟨rfl, rfl⟩ : r = b ∧ 0 = off := by simpa using e3
    rw [Nat.zero_add] at cy
    rw [hws] at p2
    have hgr : g ≠ r := fun e => by
      rcases hune with h | h
      · simp [Value.ownBlock] at h
      · simp [Value.ownBlock] at h; exact h e.symm
    have HJ := Lib.hid hj; have HADDR := Lib.hid haddr; have HU := Lib.hid hu; have HWS := Lib.hid hws
    have hbx3 := HBX.out.far (p := ⟨r, n, none⟩) (by simp; omega) (.int .i64 word)
    have hbr3 := HBR2.out.far (p := ⟨r, n, none⟩) (by simp; omega) (.int .i64 word)
    have cx3 := hbx3.cell; have cr3 := hbr3.cell; have fr3 := hbr3.frozen
    have hfin := (HD2.out.setCell (p := ⟨w.heap.size + 1, 0, none⟩) (x := .slice (some ⟨g, 0, none⟩) ps.length cc) (by simp)).write (word := word) HJ.out HU.out (by rw [HWS.out]; exact hn) HW.out
    have HFIN := Lib.hid hfin; have HBR3 := Lib.hid hbr3
    clear hj haddr hu hws hun hune hrc e1 e2 e3 hy hbx3 hbr3 hfin
    go_wp2_with fail
    have hcS := (HBR3.out.set_ (.slice (some ⟨g, 0, none⟩) ps.length cc)).cell
    refine bodyPost_ret (v := .tuple #[.agg #[.slice (some ⟨g, 0, none⟩) ps.length cc], .bool true]) ?_ rfl ?_
    · simp [results, Try.results22, go_sem, hcS]
    refine ⟨_, _, true, rfl, .inr ⟨rfl, j, n, x, ws, HJ.out, HADDR.out, hn, rfl⟩, ?_, (HB2.out.setCell (by simp; omega) _).setCell (by simp) _⟩
    rw [setCell_comm _ _ _ _ _ (by simp; omega)]
    exact HFIN.out
end Go.Proofs.Ytgkenbjpmondeaa
