/- Proved: debuggerref25.With returns the memory with another word at the address, and whether the address is there, for pages in order. -/
import Derived.Test.YtgkenbjpmondeaaRef
namespace Go.Proofs.Ytgkenbjpmondeaa
open Go.RowKit

set_option maxHeartbeats 2000000 in
theorem rwith_any (v : Value) (ps : List Pg) (addr word : Int) (w : World) (h : PagesAt w v ps) (hg : Good ps) (ha : I64 addr) (hw : I64 word) :
    Calls Try.prog 23 #[.agg #[v], .int .i64 addr, .int .i64 word] w (WithPost ps addr word w) := by
  have HPA := Lib.hid h; have HG := Lib.hid hg; have HA := Lib.hid ha; have HW := Lib.hid hw
  obtain ⟨A, cap, rfl, -, -, hc⟩ := h
  have Hc := Lib.hid hc
  clear hg ha hw hc
  have HST := Lib.hid (with_start w (.slice A ps.length cap) (.slice none 0 0))
  go_enter Try.func23, Try.ntmps23
  go_wp2_with fail
  refine (copy_any _ ps _ (HPA.out.below (((Below.refl _ _).al _).al _)) (goodSmall HG.out)).mono ?_
  rintro e w1 ⟨cv, us, rfl, hd, hb1⟩
  obtain ⟨C, cc, rfl⟩ := hd.1.shape
  have hbr := HST.out.2.below hb1 (by simp <;> omega)
  have hbm := HST.out.1.below hb1 (by simp <;> omega)
  have hB1 := (((Below.refl w.heap.size w).al _).al _).tr hb1
  have hs1 : w.heap.size + 2 ≤ w1.heap.size := by have := hb1.size; simp at this; omega
  have hd1 : Deep w1 (w.heap.size + 2) (.slice C ps.length cc) ps us := by simpa using hd
  have cm := hbm.cell; have lm := hbm.lt
  have HD := Lib.hid hd1; have HBR := Lib.hid hbr; have HBM := Lib.hid hbm; have HB1 := Lib.hid hB1
  clear hd hd1 hbr hbm hB1 hb1 HST
  go_wp2_with fail
  refine (find_any _ ps addr _ (HPA.out.below (HB1.out.al _)) HG.out HA.out).mono ?_
  rintro e w2 ⟨k, rfl, hp, hb2⟩
  have hbx := (Box.new w1 24 (.slice C ps.length cc)).below hb2 (by simp)
  have hB2 : Below w1.heap.size w1 w2 := ((Below.refl _ _).al _).tr hb2
  have hbr2 := HBR.out.below hB2 (by omega)
  have hbm2 := HBM.out.below hB2 (by omega)
  have cx := hbx.cell; have cr := hbr2.cell; have fr := hbr2.frozen; have lr := hbr2.lt; have cm2 := hbm2.cell
  have HD2 := Lib.hid (HD.out.below hB2); have HBX := Lib.hid hbx; have HBR2 := Lib.hid hbr2; have HBM2 := Lib.hid hbm2; have HB2 := Lib.hid (HB1.out.tr hB2)
  clear hbx hbr2 hbm2 hb2 hB2 cm
  rcases hp with ⟨rfl, hno⟩ | ⟨j, n, x, ws, rfl, hj, haddr, hn⟩
  · have HNO := Lib.hid hno; clear hno
    go_wp2_with fail
    have hcS := (HBR2.out.set_ (.slice C ps.length cc)).cell
    refine bodyPost_ret (v := .tuple #[.agg #[.slice C ps.length cc], .bool false]) ?_ rfl ?_
    · simp [results, Try.results23, go_sem, hcS]
    exact ⟨_, ps, false, rfl, .inl ⟨rfl, rfl, HNO.out⟩, (HD2.out.setCell (p := ⟨w.heap.size + 1, 0, none⟩) (by simp)).1.at_, HB2.out.setCell (by simp) _⟩
  · have hws := (HG.out.2.1 _ _ _ hj).2.2.2
    have hjl : j < ps.length := (List.getElem?_eq_some_iff.1 hj).1
    obtain ⟨g, cc', u, e1, hu, hi, p1, p2, hui, hBg⟩ := HD2.out.1.get hj
    obtain ⟨rfl, rfl⟩ : C = some ⟨g, 0, none⟩ ∧ cc = cc' := by simpa using e1
    obtain ⟨hun, hune⟩ := HD2.out.2.1 j x ws u hj hu
    have hsh : ∃ r c, u = .slice (some ⟨r, 0, none⟩) ws.length c ∧ w.heap.size + 2 ≤ r ∧ r < w2.heap.size ∧ w2.heap[r]? ≠ none ∧ w2.frozen? ⟨r, n, none⟩ = false := by
      rcases hun.1.2 with ⟨_, h0⟩ | ⟨r, c, cur, e, hB, hh, _⟩
      · omega
      · exact ⟨r, c, e, hB, (Array.getElem?_eq_some_iff.1 hh).1, by rw [hh]; simp, by simp [World.frozen?, hh]⟩
    obtain ⟨r, c, rfl, hrB, hrl, -, hfr⟩ := hsh
    have hr1 : r < w1.heap.size := ((HD.out.2.1 j x ws _ hj hu).1.lt r rfl).2
    obtain ⟨y, hy⟩ := get_of_lt (show n < ws.length by omega)
    obtain ⟨R, rc, e2, _, _, hrc⟩ := hui
    obtain ⟨b, off, e3, _, cy⟩ := hrc n y hy
    obtain ⟨rfl, rfl⟩ : R = some ⟨r, 0, none⟩ ∧ rc = c := by simpa [eq_comm] using e2
    obtain ⟨rfl, rfl⟩ : r = b ∧ 0 = off := by simpa using e3
    rw [Nat.zero_add] at cy
    rw [hws] at p2
    have hgr : g ≠ r := fun e => by
      rcases hune with h | h
      · simp [Value.ownBlock] at h
      · simp [Value.ownBlock] at h; exact h e.symm
    obtain ⟨mb, moff, mu, rfl, hmi, m1, -, -⟩ := Hc.out j x ws hj
    have m1' := cell_below HB2.out m1
    have HJ := Lib.hid hj; have HU := Lib.hid hu; have HWS := Lib.hid hws
    have hbx3 := HBX.out.far (p := ⟨r, n, none⟩) (by simp; omega) (.int .i64 word)
    have hbr3 := HBR2.out.far (p := ⟨r, n, none⟩) (by simp; omega) (.int .i64 word)
    have cx3 := hbx3.cell; have cr3 := hbr3.cell; have fr3 := hbr3.frozen
    have hfin := (HD2.out.setCell (p := ⟨w.heap.size + 1, 0, none⟩) (x := .slice (some ⟨g, 0, none⟩) ps.length cc) (by simp)).write (word := word) HJ.out HU.out (by rw [HWS.out]; exact hn) HW.out
    have HFIN := Lib.hid hfin; have HBR3 := Lib.hid hbr3
    subst haddr
    unfold I64 at hi
    have hsub : IntKind.i64.wrap (x + (n : Int) - x) = (n : Int) := by rw [show x + (n : Int) - x = n by omega]; exact IntWalk.i64_in _ (by omega)
    have hn0 : (0 : Int) ≤ (n : Int) := Int.natCast_nonneg _
    have hn64 : (n : Int) < 64 := by omega
    have hj0 : (0 : Int) ≤ (j : Int) := Int.natCast_nonneg _
    have hj1 : (j : Int) < (ps.length : Int) := by omega
    clear hj hu hws hun hune hrc e1 e2 e3 hy hbx3 hbr3 hfin m1
    go_wp2_with fail
    obtain ⟨S, eS⟩ : ∃ S : World → Prop, S = fun w' => w'.cell? ⟨w1.heap.size, 0, none⟩ = some (.slice (some ⟨g, 0, none⟩) ps.length cc) ∧ w'.cell? ⟨w.heap.size, 0, none⟩ = some (.slice (some ⟨mb, moff, none⟩) ps.length cap) ∧ w'.cell? ⟨g, j * 2 + 1, none⟩ = some (.slice (some ⟨r, 0, none⟩) 64 rc) ∧ w'.cell? ⟨mb, moff + j * 2, none⟩ = some (.int .i64 x) := ⟨_, rfl⟩
    have mkS : ∀ w' : World, w'.cell? ⟨w1.heap.size, 0, none⟩ = some (.slice (some ⟨g, 0, none⟩) ps.length cc) → w'.cell? ⟨w.heap.size, 0, none⟩ = some (.slice (some ⟨mb, moff, none⟩) ps.length cap) → w'.cell? ⟨g, j * 2 + 1, none⟩ = some (.slice (some ⟨r, 0, none⟩) 64 rc) → w'.cell? ⟨mb, moff + j * 2, none⟩ = some (.int .i64 x) → S w' := fun w' g0 g1 g2 g3 => by rw [eS]; exact ⟨g0, g1, g2, g3⟩
    have sS := mkS _ cx cm2 p2 (m1')
    have ne_ : Nonempty (Lex.HW S) := ⟨⟨_, sS⟩⟩
    have exS : ∀ w' : World, S w' → w'.cell? ⟨w1.heap.size, 0, none⟩ = some (.slice (some ⟨g, 0, none⟩) ps.length cc) ∧ w'.cell? ⟨w.heap.size, 0, none⟩ = some (.slice (some ⟨mb, moff, none⟩) ps.length cap) ∧ w'.cell? ⟨g, j * 2 + 1, none⟩ = some (.slice (some ⟨r, 0, none⟩) 64 rc) ∧ w'.cell? ⟨mb, moff + j * 2, none⟩ = some (.int .i64 x) := fun w' h => by rw [eS] at h; exact h
    have q0_ : ∀ p : Lex.HW S, p.w.cell? ⟨w1.heap.size, 0, none⟩ = some (.slice (some ⟨g, 0, none⟩) ps.length cc) := fun p => (exS _ p.ok).1
    have q1_ : ∀ p : Lex.HW S, p.w.cell? ⟨w.heap.size, 0, none⟩ = some (.slice (some ⟨mb, moff, none⟩) ps.length cap) := fun p => (exS _ p.ok).2.1
    have q2_ : ∀ p : Lex.HW S, p.w.cell? ⟨g, j * 2 + 1, none⟩ = some (.slice (some ⟨r, 0, none⟩) 64 rc) := fun p => (exS _ p.ok).2.2.1
    have q3_ : ∀ p : Lex.HW S, p.w.cell? ⟨mb, moff + j * 2, none⟩ = some (.int .i64 x) := fun p => (exS _ p.ok).2.2.2
    clear eS exS
    have MKS := Lib.hid mkS; clear mkS sS
    refine Lex.wp_region_lex S 16 [([0, 1, 2, 3, 4, 5, 6, 7, 8, 9, 10, 11, 12, 13, 14, 15], some 16)] (by kernel_rfl) (by kernel_rfl) (fun _ _ d _ _ h => by cases d <;> exact h) (MKS.out _ cx cm2 p2 (m1')) ?_
    refine Lex.lexW_some (os := ?_) (o := ?_) (by simp only [List.filterMap_cons, List.filterMap_nil, List.getElem?_toArray, List.getElem?_cons_zero, List.getElem?_cons_succ]; rfl) (by simp only [List.getElem?_toArray, List.getElem?_cons_zero, List.getElem?_cons_succ]; rfl) ?_
    repeat (first | go_big_quiet_step (fail) | quiet_step (fail))
    refine wpQuiet_nil ?_
    intro K hK
    have HK := Lib.hid hK; clear hK
    go_wp2_with fail
    refine HK.out _ _ (fun h => absurd h (by decide)) (Lex.lexW_nil ?_)
    clear HK K
    go_wp2_with fail
    have hcS := (HBR3.out.set_ (.slice (some ⟨g, 0, none⟩) ps.length cc)).cell
    refine bodyPost_ret (v := .tuple #[.agg #[.slice (some ⟨g, 0, none⟩) ps.length cc], .bool true]) ?_ rfl ?_
    · simp [results, Try.results23, go_sem, hcS]
    refine ⟨_, _, true, rfl, .inr ⟨rfl, j, n, x, ws, HJ.out, rfl, hn, rfl⟩, PagesAt.below ?_ (Below.refl _ _).drew, ((HB2.out.setCell (by simp; omega) _).setCell (by simp) _).drew⟩
    rw [setCell_comm _ _ _ _ _ (by simp; omega)]
    exact HFIN.out
end Go.Proofs.Ytgkenbjpmondeaa
