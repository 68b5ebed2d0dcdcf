/- Proved: debuggerlaw25.MemoryRight returns true for every input. -/
import Derived.Test.YtgkenbjpmondeaaRightR
import Derived.Test.YtgkenbjpmondeaaLawReads
namespace Go.Proofs.Ytgkenbjpmondeaa
open Go.RowKit

/-- a page of a row of the call's own gets another base and fewer words -/
theorem PagesRow.setPage {w : World} {B g cap j m c len : Nat} {A : Option Addr} {ps : List Pg} {us : List Value} {x base : Int} {ws : List Int} (h : PagesRow w B (.slice (some ⟨g, 0, none⟩) ps.length cap) ps us)
    (hj : ps[j]? = some (x, ws)) (hu : us[j]? = some (.slice A len c)) (hb : I64 base) (hm : m ≤ ws.length) :
    PagesAt ((w.setCell ⟨g, j * 2, none⟩ (.int .i64 base)).setCell ⟨g, j * 2 + 1, none⟩ (.slice A m c)) (.slice (some ⟨g, 0, none⟩) ps.length cap) (ps.set j (base, ws.take m)) := by
  have gr : w.grownBy ((w.setCell ⟨g, j * 2, none⟩ (.int .i64 base)).setCell ⟨g, j * 2 + 1, none⟩ (.slice A m c)) (some g) :=
    ⟨rfl, rfl, rfl, by simp [World.setCell], fun i hi hne => by
      rw [Below.heap_setCell _ _ _ _ (fun e => hne (by rw [e])), Below.heap_setCell _ _ _ _ (fun e => hne (by rw [e]))]⟩
  have hjl := (List.getElem?_eq_some_iff.1 hj).1
  obtain ⟨V, vc, e0, hl, hmx, -⟩ := h.at_
  obtain ⟨rfl, rfl⟩ : V = some ⟨g, 0, none⟩ ∧ vc = cap := by simpa [eq_comm] using e0
  refine ⟨_, vc, by simp, by simpa using hl, hmx, fun k y zs hy => ?_⟩
  have hkl : k < ps.length := by have := (List.getElem?_eq_some_iff.1 hy).1; simpa using this
  obtain ⟨⟨y0, zs0⟩, hy0⟩ := get_of_lt hkl
  obtain ⟨g', cap', u', e1, hu', hi', q1, q2, q3, -⟩ := h.get hy0
  obtain ⟨rfl, rfl⟩ : g' = g ∧ cap' = vc := by simpa [eq_comm] using e1
  obtain ⟨-, cs, -, hcs⟩ := h
  obtain ⟨-, -, u'', hu'', -, -, hoff⟩ := hcs k y0 zs0 hy0
  obtain rfl : u' = u'' := by rw [hu'] at hu''; simpa using hu''
  have hoff' : Off u' zs0 (some g') := hoff
  by_cases hkj : k = j
  · subst hkj
    rw [List.getElem?_set_self hkl] at hy
    simp at hy
    obtain ⟨rfl, rfl⟩ := hy
    rw [hj] at hy0
    simp at hy0
    obtain ⟨rfl, rfl⟩ := hy0
    rw [hu] at hu'
    obtain rfl : Value.slice A len c = u' := by simpa using hu'
    refine ⟨g', 0, .slice A m c, rfl, hb, ?_, ?_, ?_⟩
    · rw [World.cell?_setCell_other _ _ _ _ (by simp), Nat.zero_add]
      exact World.cell?_setCell_same w _ _ q1
    · rw [Nat.zero_add]
      have q2' : (w.setCell ⟨g', k * 2, none⟩ (.int .i64 base)).cell? ⟨g', k * 2 + 1, none⟩ = some (.slice A len c) := by
        rw [World.cell?_setCell_other _ _ _ _ (by simp)]
        exact q2
      exact World.cell?_setCell_same _ _ _ q2'
    · obtain ⟨A', c', e2, h1, h2, h3⟩ := q3.keep gr hoff'
      obtain ⟨rfl, rfl, rfl⟩ : A = A' ∧ len = ws.length ∧ c = c' := by simpa using e2
      refine ⟨A, c, by simp; omega, by simp; omega, h2, fun i z hz => ?_⟩
      rw [List.getElem?_take] at hz
      split at hz
      · exact h3 i z hz
      · cases hz
  · rw [List.getElem?_set_ne (Ne.symm hkj), hy0] at hy
    simp at hy
    obtain ⟨rfl, rfl⟩ := hy
    refine ⟨g', 0, u', rfl, hi', ?_, ?_, q3.keep gr hoff'⟩
    · rw [World.cell?_setCell_other _ _ _ _ (by simp <;> omega), World.cell?_setCell_other _ _ _ _ (by simp <;> omega), Nat.zero_add]
      exact q1
    · rw [World.cell?_setCell_other _ _ _ _ (by simp <;> omega), World.cell?_setCell_other _ _ _ _ (by simp <;> omega), Nat.zero_add]
      exact q2

set_option maxRecDepth 100000 in
set_option maxHeartbeats 4000000 in
theorem memoryRight_any (m v : Value) (qs : List Pg) (l : List Int) (k base words : Int) (w : World) (hq : PagesAt w m qs) (h : IntsAt w v l) (hk : I64 k) (hb : I64 base) (hw : I64 words) :
    Calls Try.prog 3 #[.agg #[m], v, .int .i64 k, .int .i64 base, .int .i64 words] w (EqPost true w) := by
  have HI := Lib.hid h; have HQ := Lib.hid hq; have HKI := Lib.hid hk; have HBS := Lib.hid hb; have HW := Lib.hid hw
  obtain ⟨M, mc, rfl, -, -, -⟩ := hq
  clear h hk hb hw
  have hgood := (take_good l 8 (Nat.le_refl _)).1.good
  have hlen8 := (take_good l 8 (Nat.le_refl _)).2
  have HG := Lib.hid hgood; clear hgood
  go_enter Try.func3, Try.ntmps3
  go_wp2_with fail
  refine (small_any _ qs _ (HQ.out.below ((Below.refl _ _).al _))).mono ?_
  rintro e w1 ⟨sb, rfl, hb1⟩
  have hbm := (Box.new w 24 (.slice M qs.length mc)).below hb1 (by simp)
  have hB1 : Below w.heap.size w w1 := ((Below.refl _ _).al _).tr hb1
  have cm := hbm.cell; have lm := hbm.lt
  have HBM := Lib.hid hbm; have HB1 := Lib.hid hB1
  clear hbm hB1 hb1
  cases sb with
  | false =>
    go_wp2_with fail
    refine (awake_any _).mono ?_
    rintro e w2 ⟨rfl, hb2⟩
    have HB2 := Lib.hid hb2; clear hb2
    go_wp2_with fail
    go_ret
    exact ⟨rfl, HB1.out.tr HB2.out⟩
  | true =>
    go_wp2_with fail
    refine (some_any _ l _ (HI.out.below HB1.out)).mono ?_
    rintro e w2 ⟨v1, us, rfl, hrow, -, hb2⟩
    obtain ⟨V, vc, rfl⟩ := hrow.shape
    obtain ⟨ps, hps⟩ : ∃ ps, ps = someL l := ⟨_, rfl⟩
    have hl8 : ps.length ≤ 8 := by rw [hps]; exact hlen8
    rw [← hps] at hrow ⊢
    have HGP : Hid (Good ps) := by rw [hps]; exact HG
    have HPS := Lib.hid hps
    clear hps HG hlen8
    have hbm := HBM.out.below hb2 HBM.out.lt
    have cm2 := hbm.cell; have lm2 := hbm.lt
    have HBM2 := Lib.hid hbm; have HB2 := Lib.hid (HB1.out.tr hb2); have HROW := Lib.hid hrow
    clear hbm hb2 hrow cm
    by_cases hn0 : ps.length = 0
    · have hn0' : (ps.length : Int) ≤ 0 := by omega
      have hnd : decide ((0 : Int) < (ps.length : Int)) = false := decide_eq_false (by omega)
      have hnn : decide (0 < ps.length) = false := decide_eq_false (by omega)
      clear hn0
      go_wp2_with fail
      have c5 := HBM2.out.cell
      have c5 : (w2.alloc (.cells #[.slice V ps.length vc] 24)).cell? ⟨w.heap.size, 0, none⟩ = some (.slice M qs.length mc) := (HBM2.out.alloc _).cell
      have c6 : (w2.alloc (.cells #[.slice V ps.length vc] 24)).cell? ⟨w2.heap.size, 0, none⟩ = some (.slice V ps.length vc) := (Box.new _ _ _).cell
      have HBX := Lib.hid (HB2.out.al (.cells #[.slice V ps.length vc] 24))
      obtain ⟨xs, hxs⟩ : ∃ xs, xs = ps := ⟨_, rfl⟩
      have HPX : Hid (PagesAt (w2.alloc (.cells #[.slice V ps.length vc] 24)) (.slice V ps.length vc) xs) := by rw [hxs]; exact Lib.hid (HROW.out.at_.below ((Below.refl _ _).al _))
      clear hxs
      generalize (w2.alloc (.cells #[.slice V ps.length vc] 24)) = wx at c5 c6 HBX HPX ⊢
      clear cm2 lm2
      obtain ⟨S, eS⟩ : ∃ S : World → Prop, S = fun w' => w'.cell? ⟨w.heap.size, 0, none⟩ = some (.slice M qs.length mc) ∧ w'.cell? ⟨w2.heap.size, 0, none⟩ = some (.slice V ps.length vc) := ⟨_, rfl⟩
      have mkS : ∀ w' : World, w'.cell? ⟨w.heap.size, 0, none⟩ = some (.slice M qs.length mc) → w'.cell? ⟨w2.heap.size, 0, none⟩ = some (.slice V ps.length vc) → S w' := fun w' g0 g1 => by rw [eS]; exact ⟨g0, g1⟩
      have sS := mkS _ c5 c6
      have ne_ : Nonempty (Lex.HW S) := ⟨⟨_, sS⟩⟩
      have exS : ∀ w' : World, S w' → w'.cell? ⟨w.heap.size, 0, none⟩ = some (.slice M qs.length mc) ∧ w'.cell? ⟨w2.heap.size, 0, none⟩ = some (.slice V ps.length vc) := fun w' h => by rw [eS] at h; exact h
      have q0_ : ∀ p : Lex.HW S, p.w.cell? ⟨w.heap.size, 0, none⟩ = some (.slice M qs.length mc) := fun p => (exS _ p.ok).1
      have q1_ : ∀ p : Lex.HW S, p.w.cell? ⟨w2.heap.size, 0, none⟩ = some (.slice V ps.length vc) := fun p => (exS _ p.ok).2
      clear eS exS
      have MKS := Lib.hid mkS; clear mkS sS
      refine Lex.wp_region_lex S 21 [([0, 2], some 1), ([], some 3), ([4, 5, 6, 8], some 7), ([], some 9), ([10, 11, 12, 13], some 14), ([], some 15), ([16, 17], some 18), ([19, 20], none)] (by kernel_rfl) (by kernel_rfl) (fun _ _ d _ _ h => by cases d <;> exact h) (MKS.out _ c5 c6) ?_
      refine Lex.lexW_some (os := ?_) (o := ?_) (by simp only [List.filterMap_cons, List.filterMap_nil, List.getElem?_toArray, List.getElem?_cons_zero, List.getElem?_cons_succ]; rfl) (by simp only [List.getElem?_toArray, List.getElem?_cons_zero, List.getElem?_cons_succ]; rfl) ?_
      repeat (first | go_big_quiet_step (fail) | quiet_step (fail))
      refine wpQuiet_nil ?_
      intro K hK
      have HK := Lib.hid hK; clear hK
      go_wp2_with fail
      refine (right_any _ qs _ (HQ.out.below HBX.out.drew)).mono ?_
      rintro e w6 ⟨rfl, hb⟩
      have HB6 := Lib.hid (((Below.refl _ _).drew).tr hb); clear hb
      go_wp2_with fail
      refine HK.out _ _ (fun _ => MKS.out _ (cell_below HB6.out c5) (cell_below HB6.out c6)) ?_
      clear HK K
      refine Lex.lexW_some (os := ?_) (o := ?_) (by simp only [List.filterMap_nil]; rfl) (by simp only [List.getElem?_toArray, List.getElem?_cons_zero, List.getElem?_cons_succ]; rfl) ?_
      repeat (first | go_big_quiet_step (fail) | quiet_step (fail))
      refine wpQuiet_nil ?_
      intro K hK
      have HK := Lib.hid hK; clear hK
      go_wp2_with fail
      refine (rright_any _ qs _ (HQ.out.below (HBX.out.tr HB6.out))).mono ?_
      rintro e w7 ⟨rfl, hb⟩
      have HB7 := Lib.hid (HB6.out.tr hb); clear hb
      have hbq : (rightB qs == rightB qs) = true := by simp
      generalize rightB qs = bq at hbq ⊢
      go_wp2_with fail
      refine HK.out _ _ (fun _ => MKS.out _ (cell_below HB7.out c5) (cell_below HB7.out c6)) ?_
      clear HK K
      refine Lex.lexW_some (os := ?_) (o := ?_) (by simp only [List.filterMap_cons, List.filterMap_nil, List.getElem?_toArray, List.getElem?_cons_zero, List.getElem?_cons_succ]; rfl) (by simp only [List.getElem?_toArray, List.getElem?_cons_zero, List.getElem?_cons_succ]; rfl) ?_
      repeat (first | go_big_quiet_step (fail) | quiet_step (fail))
      refine wpQuiet_nil ?_
      intro K hK
      have HK := Lib.hid hK; clear hK
      go_wp2_with fail
      refine (right_any _ xs _ (HPX.out.below HB7.out)).mono ?_
      rintro e w8 ⟨rfl, hb⟩
      have HB8 := Lib.hid (HB7.out.tr hb); clear hb
      go_wp2_with fail
      refine HK.out _ _ (fun _ => MKS.out _ (cell_below HB8.out c5) (cell_below HB8.out c6)) ?_
      clear HK K
      refine Lex.lexW_some (os := ?_) (o := ?_) (by simp only [List.filterMap_nil]; rfl) (by simp only [List.getElem?_toArray, List.getElem?_cons_zero, List.getElem?_cons_succ]; rfl) ?_
      repeat (first | go_big_quiet_step (fail) | quiet_step (fail))
      refine wpQuiet_nil ?_
      intro K hK
      have HK := Lib.hid hK; clear hK
      go_wp2_with fail
      refine (rright_any _ xs _ (HPX.out.below HB8.out)).mono ?_
      rintro e w9 ⟨rfl, hb⟩
      have HB9 := Lib.hid (HB8.out.tr hb); clear hb
      have hbx : (rightB xs == rightB xs) = true := by simp
      generalize rightB xs = bx at hbx ⊢
      go_wp2_with fail
      refine HK.out _ _ (fun _ => MKS.out _ (cell_below HB9.out c5) (cell_below HB9.out c6)) ?_
      clear HK K
      refine Lex.lexW_some (os := ?_) (o := ?_) (by simp only [List.filterMap_cons, List.filterMap_nil, List.getElem?_toArray, List.getElem?_cons_zero, List.getElem?_cons_succ]; rfl) (by simp only [List.getElem?_toArray, List.getElem?_cons_zero, List.getElem?_cons_succ]; rfl) ?_
      repeat (first | go_big_quiet_step (fail) | quiet_step (fail))
      refine wpQuiet_nil ?_
      intro K hK
      have HK := Lib.hid hK; clear hK
      go_wp2_with fail
      refine (some_any _ l _ (HI.out.below (HBX.out.tr HB9.out))).mono ?_
      rintro e w10 ⟨v10, us10, rfl, hrow10, -, hb⟩
      have HB10 := Lib.hid (HB9.out.tr hb); have HR10 := Lib.hid hrow10.at_; clear hb hrow10
      go_wp2_with fail
      refine HK.out _ _ (fun _ => MKS.out _ (cell_below HB10.out c5) (cell_below HB10.out c6)) ?_
      clear HK K
      refine Lex.lexW_some (os := ?_) (o := ?_) (by simp only [List.filterMap_nil]; rfl) (by simp only [List.getElem?_toArray, List.getElem?_cons_zero, List.getElem?_cons_succ]; rfl) ?_
      repeat (first | go_big_quiet_step (fail) | quiet_step (fail))
      refine wpQuiet_nil ?_
      intro K hK
      have HK := Lib.hid hK; clear hK
      go_wp2_with fail
      refine (right_any _ (someL l) _ HR10.out).mono ?_
      rintro e w11 ⟨rfl, hb⟩
      rw [← HPS.out, HGP.out.right]
      have HB11 := Lib.hid (HB10.out.tr hb); clear hb
      go_wp2_with fail
      refine HK.out _ _ (fun _ => MKS.out _ (cell_below HB11.out c5) (cell_below HB11.out c6)) ?_
      clear HK K
      refine Lex.lexW_some (os := ?_) (o := ?_) (by simp only [List.filterMap_cons, List.filterMap_nil, List.getElem?_toArray, List.getElem?_cons_zero, List.getElem?_cons_succ]; rfl) (by simp only [List.getElem?_toArray, List.getElem?_cons_zero, List.getElem?_cons_succ]; rfl) ?_
      repeat (first | go_big_quiet_step (fail) | quiet_step (fail))
      refine wpQuiet_nil ?_
      intro K hK
      have HK := Lib.hid hK; clear hK
      go_wp2_with fail
      refine (awake_any _).mono ?_
      rintro e w12 ⟨rfl, hb⟩
      have HB12 := Lib.hid (HB11.out.tr hb); clear hb
      go_wp2_with fail
      refine HK.out _ _ (fun _ => MKS.out _ (cell_below HB12.out c5) (cell_below HB12.out c6)) ?_
      clear HK K
      refine Lex.lexW_none (os := ?_) (by simp only [List.filterMap_cons, List.filterMap_nil, List.getElem?_toArray, List.getElem?_cons_zero, List.getElem?_cons_succ]; rfl) ?_
      repeat (first | go_big_quiet_step (fail) | quiet_step (fail))
      refine wpQuiet_nil (Lex.lexW_nil ?_)
      go_wp2_with fail
      go_ret
      exact ⟨rfl, HBX.out.tr HB12.out⟩
    · have hn0' : 0 < ps.length := by omega
      clear hn0
      obtain ⟨j, hj⟩ : ∃ j : Nat, (j : Int) = k % (ps.length : Int) := ⟨(k % (ps.length : Int)).toNat, by have := Int.emod_nonneg k (show (ps.length : Int) ≠ 0 by omega); omega⟩
      have hjl : j < ps.length := by have := Int.emod_lt_of_pos k (show (0 : Int) < (ps.length : Int) by omega); omega
      obtain ⟨⟨x, ws⟩, hx⟩ := get_of_lt hjl
      obtain ⟨g, cap', u, e1, hu, hi, p1, p2, hui, hBg⟩ := HROW.out.get hx
      obtain ⟨rfl, rfl⟩ : V = some ⟨g, 0, none⟩ ∧ vc = cap' := by simpa using e1
      obtain ⟨U, uc, rfl, hul, hum, -⟩ := id hui
      have hw64 : ws.length = 64 := (HGP.out.2.1 _ _ _ hx).2.2.2
      have hgl : g < w2.heap.size := World.block_lt_of_cell? _ _ p1
      have hfz : ∀ o, w2.frozen? ⟨g, o, none⟩ = false := fun o => by
        obtain ⟨-, cs, ho, -⟩ := HROW.out
        rcases ho.2 with ⟨e, _⟩ | ⟨g', cap, cur, e, hB, hh, _⟩
        · simp at e
        · have : g' = g := by simp at e; exact e.1.symm
          subst this
          simp [World.frozen?, hh]
      have f1 := hfz (j * 2); have f2 := hfz (j * 2 + 1)
      have HJ := Lib.hid hj; have HX := Lib.hid hx; have HU := Lib.hid hu
      rw [hw64] at p2
      have hul' : 64 ≤ uc := by omega
      have hum' := hum.1
      have hj0 : (0 : Int) ≤ (j : Int) := Int.natCast_nonneg _
      have hj1 : (j : Int) < (ps.length : Int) := by omega
      have HW64 := Lib.hid hw64
      clear hj hx hu e1 hui hum hi hfz hw64
      go_wp2_with fail
      have c6 : (w2.alloc (.cells #[.slice (some ⟨g, 0, none⟩) ps.length vc] 24)).cell? ⟨w2.heap.size, 0, none⟩ = some (.slice (some ⟨g, 0, none⟩) ps.length vc) := (Box.new _ _ _).cell
      obtain ⟨S, eS⟩ : ∃ S : World → Prop, S = fun w' => w'.cell? ⟨w2.heap.size, 0, none⟩ = some (.slice (some ⟨g, 0, none⟩) ps.length vc) := ⟨_, rfl⟩
      have mkS : ∀ w' : World, w'.cell? ⟨w2.heap.size, 0, none⟩ = some (.slice (some ⟨g, 0, none⟩) ps.length vc) → S w' := fun w' g0 => by rw [eS]; exact g0
      have sS := mkS _ c6
      have ne_ : Nonempty (Lex.HW S) := ⟨⟨_, sS⟩⟩
      have exS : ∀ w' : World, S w' → w'.cell? ⟨w2.heap.size, 0, none⟩ = some (.slice (some ⟨g, 0, none⟩) ps.length vc) := fun w' h => by rw [eS] at h; exact h
      have q0_ : ∀ p : Lex.HW S, p.w.cell? ⟨w2.heap.size, 0, none⟩ = some (.slice (some ⟨g, 0, none⟩) ps.length vc) := fun p => (exS _ p.ok)
      clear eS exS
      have MKS := Lib.hid mkS; clear mkS sS
      refine Lex.wp_region_lex S 7 [([0, 1, 2, 3], some 4), ([5, 6], none)] (by kernel_rfl) (by kernel_rfl) (fun _ _ d _ _ h => by cases d <;> exact h) (MKS.out _ c6) ?_
      refine Lex.lexW_some (os := ?_) (o := ?_) (by simp only [List.filterMap_cons, List.filterMap_nil, List.getElem?_toArray, List.getElem?_cons_zero, List.getElem?_cons_succ]; rfl) (by simp only [List.getElem?_toArray, List.getElem?_cons_zero, List.getElem?_cons_succ]; rfl) ?_
      repeat (first | go_big_quiet_step (fail) | quiet_step (fail))
      refine wpQuiet_nil ?_
      intro K hK
      have HK := Lib.hid hK; clear hK
      go_wp2_with fail
      refine (mod_any k ps.length _ HKI.out (by omega) (by omega)).mono ?_
      rintro e w' ⟨rfl, rfl⟩
      rw [← HJ.out]
      go_wp2_with fail
      refine HK.out _ _ (fun _ => MKS.out _ c6) ?_
      clear HK K
      refine Lex.lexW_none (os := ?_) (by simp only [List.filterMap_cons, List.filterMap_nil, List.getElem?_toArray, List.getElem?_cons_zero, List.getElem?_cons_succ]; rfl) ?_
      repeat (first | go_big_quiet_step (fail) | quiet_step (fail))
      refine wpQuiet_nil (Lex.lexW_nil ?_)
      go_wp2_with fail
      clear c6
      obtain ⟨mm, hmm⟩ : ∃ mm : Nat, (mm : Int) = words % 65 := ⟨(words % 65).toNat, by omega⟩
      have hm1 : mm ≤ 64 := by omega
      have hm0 : (0 : Int) ≤ (mm : Int) := Int.natCast_nonneg _
      have hm2 : (mm : Int) ≤ (uc : Int) := by omega
      have HMM := Lib.hid hmm; clear hmm
      have g2 : ((w2.setCell ⟨g, j * 2, none⟩ (.int .i64 base)).alloc (.cells #[.slice (some ⟨g, 0, none⟩) ps.length vc] 24)).cell? ⟨g, j * 2 + 1, none⟩ = some (.slice U 64 uc) := by
        refine cell_below ((Below.refl _ _).al _) ?_
        rw [World.cell?_setCell_other _ _ _ _ (by simp)]
        exact p2
      obtain ⟨S, eS⟩ : ∃ S : World → Prop, S = fun w' => w'.cell? ⟨g, j * 2 + 1, none⟩ = some (.slice U 64 uc) := ⟨_, rfl⟩
      have mkS : ∀ w' : World, w'.cell? ⟨g, j * 2 + 1, none⟩ = some (.slice U 64 uc) → S w' := fun w' g0 => by rw [eS]; exact g0
      have sS := mkS _ g2
      have ne_ : Nonempty (Lex.HW S) := ⟨⟨_, sS⟩⟩
      have exS : ∀ w' : World, S w' → w'.cell? ⟨g, j * 2 + 1, none⟩ = some (.slice U 64 uc) := fun w' h => by rw [eS] at h; exact h
      have q0_ : ∀ p : Lex.HW S, p.w.cell? ⟨g, j * 2 + 1, none⟩ = some (.slice U 64 uc) := fun p => (exS _ p.ok)
      clear eS exS
      have MKS := Lib.hid mkS; clear mkS sS
      refine Lex.wp_region_lex S 10 [([0, 1, 2, 3, 4, 5], some 6), ([7, 8, 9], some 10)] (by kernel_rfl) (by kernel_rfl) (fun _ _ d _ _ h => by cases d <;> exact h) (MKS.out _ g2) ?_
      refine Lex.lexW_some (os := ?_) (o := ?_) (by simp only [List.filterMap_cons, List.filterMap_nil, List.getElem?_toArray, List.getElem?_cons_zero, List.getElem?_cons_succ]; rfl) (by simp only [List.getElem?_toArray, List.getElem?_cons_zero, List.getElem?_cons_succ]; rfl) ?_
      repeat (first | go_big_quiet_step (fail) | quiet_step (fail))
      refine wpQuiet_nil ?_
      intro K hK
      have HK := Lib.hid hK; clear hK
      go_wp2_with fail
      refine (mod_any words 65 _ HW.out (by omega) (by omega)).mono ?_
      rintro e w' ⟨rfl, rfl⟩
      rw [← HMM.out]
      go_wp2_with fail
      refine HK.out _ _ (fun _ => MKS.out _ g2) ?_
      clear HK K
      refine Lex.lexW_some (os := ?_) (o := ?_) (by simp only [List.filterMap_cons, List.filterMap_nil, List.getElem?_toArray, List.getElem?_cons_zero, List.getElem?_cons_succ]; rfl) (by simp only [List.getElem?_toArray, List.getElem?_cons_zero, List.getElem?_cons_succ]; rfl) ?_
      repeat (first | go_big_quiet_step (fail) | quiet_step (fail))
      refine wpQuiet_nil ?_
      intro K hK
      have HK := Lib.hid hK; clear hK
      go_wp2_with fail
      refine HK.out _ _ (fun h => absurd h (by decide)) (Lex.lexW_nil ?_)
      clear HK K
      go_wp2_with fail
      have hpx := (HROW.out.setPage (base := base) (m := mm) HX.out HU.out HBS.out (by rw [HW64.out]; exact hm1)).below ((Below.refl _ _).al (.cells #[.slice (some ⟨g, 0, none⟩) ps.length vc] 24))
      have c5 : (((w2.setCell ⟨g, j * 2, none⟩ (.int .i64 base)).setCell ⟨g, j * 2 + 1, none⟩ (.slice U mm uc)).alloc (.cells #[.slice (some ⟨g, 0, none⟩) ps.length vc] 24)).cell? ⟨w.heap.size, 0, none⟩ = some (.slice M qs.length mc) :=
        (((HBM2.out.far (by simp; omega) _).far (by simp; omega) _).alloc _).cell
      have c6 : (((w2.setCell ⟨g, j * 2, none⟩ (.int .i64 base)).setCell ⟨g, j * 2 + 1, none⟩ (.slice U mm uc)).alloc (.cells #[.slice (some ⟨g, 0, none⟩) ps.length vc] 24)).cell? ⟨w2.heap.size, 0, none⟩ = some (.slice (some ⟨g, 0, none⟩) ps.length vc) := by
        have := (Box.new ((w2.setCell ⟨g, j * 2, none⟩ (.int .i64 base)).setCell ⟨g, j * 2 + 1, none⟩ (.slice U mm uc)) 24 (.slice (some ⟨g, 0, none⟩) ps.length vc)).cell
        simpa [World.setCell] using this
      have hbx := (((HB2.out.setCell (p := ⟨g, j * 2, none⟩) (by have := HB1.out.size; simp; omega) (.int .i64 base)).setCell (p := ⟨g, j * 2 + 1, none⟩) (by have := HB1.out.size; simp; omega) (.slice U mm uc)).al (.cells #[.slice (some ⟨g, 0, none⟩) ps.length vc] 24))
      generalize ((w2.setCell ⟨g, j * 2, none⟩ (.int .i64 base)).setCell ⟨g, j * 2 + 1, none⟩ (.slice U mm uc)).alloc (.cells #[.slice (some ⟨g, 0, none⟩) ps.length vc] 24) = wy at hpx c5 c6 hbx ⊢
      obtain ⟨xs, hxs⟩ : ∃ xs, xs = ps.set j (base, ws.take mm) := ⟨_, rfl⟩
      rw [← hxs] at hpx
      obtain ⟨wx, hwx⟩ : ∃ wx, wx = wy.drew.drew := ⟨_, rfl⟩
      have HPX : Hid (PagesAt wx (.slice (some ⟨g, 0, none⟩) ps.length vc) xs) := by rw [hwx]; exact Lib.hid (hpx.below ((Below.refl _ _).drew.drew))
      have HBX : Hid (Below w.heap.size w wx) := by rw [hwx]; exact Lib.hid hbx.drew.drew
      replace c5 : wx.cell? ⟨w.heap.size, 0, none⟩ = some (.slice M qs.length mc) := by rw [hwx]; exact c5
      replace c6 : wx.cell? ⟨w2.heap.size, 0, none⟩ = some (.slice (some ⟨g, 0, none⟩) ps.length vc) := by rw [hwx]; exact c6
      rw [← hwx]
      clear hwx hxs hpx hbx g2 cm2 lm2
      obtain ⟨S, eS⟩ : ∃ S : World → Prop, S = fun w' => w'.cell? ⟨w.heap.size, 0, none⟩ = some (.slice M qs.length mc) ∧ w'.cell? ⟨w2.heap.size, 0, none⟩ = some (.slice (some ⟨g, 0, none⟩) ps.length vc) := ⟨_, rfl⟩
      have mkS : ∀ w' : World, w'.cell? ⟨w.heap.size, 0, none⟩ = some (.slice M qs.length mc) → w'.cell? ⟨w2.heap.size, 0, none⟩ = some (.slice (some ⟨g, 0, none⟩) ps.length vc) → S w' := fun w' g0 g1 => by rw [eS]; exact ⟨g0, g1⟩
      have sS := mkS _ c5 c6
      have ne_ : Nonempty (Lex.HW S) := ⟨⟨_, sS⟩⟩
      have exS : ∀ w' : World, S w' → w'.cell? ⟨w.heap.size, 0, none⟩ = some (.slice M qs.length mc) ∧ w'.cell? ⟨w2.heap.size, 0, none⟩ = some (.slice (some ⟨g, 0, none⟩) ps.length vc) := fun w' h => by rw [eS] at h; exact h
      have q0_ : ∀ p : Lex.HW S, p.w.cell? ⟨w.heap.size, 0, none⟩ = some (.slice M qs.length mc) := fun p => (exS _ p.ok).1
      have q1_ : ∀ p : Lex.HW S, p.w.cell? ⟨w2.heap.size, 0, none⟩ = some (.slice (some ⟨g, 0, none⟩) ps.length vc) := fun p => (exS _ p.ok).2
      clear eS exS
      have MKS := Lib.hid mkS; clear mkS sS
      refine Lex.wp_region_lex S 21 [([0, 2], some 1), ([], some 3), ([4, 5, 6, 8], some 7), ([], some 9), ([10, 11, 12, 13], some 14), ([], some 15), ([16, 17], some 18), ([19, 20], none)] (by kernel_rfl) (by kernel_rfl) (fun _ _ d _ _ h => by cases d <;> exact h) (MKS.out _ c5 c6) ?_
      refine Lex.lexW_some (os := ?_) (o := ?_) (by simp only [List.filterMap_cons, List.filterMap_nil, List.getElem?_toArray, List.getElem?_cons_zero, List.getElem?_cons_succ]; rfl) (by simp only [List.getElem?_toArray, List.getElem?_cons_zero, List.getElem?_cons_succ]; rfl) ?_
      repeat (first | go_big_quiet_step (fail) | quiet_step (fail))
      refine wpQuiet_nil ?_
      intro K hK
      have HK := Lib.hid hK; clear hK
      go_wp2_with fail
      refine (right_any _ qs _ (HQ.out.below HBX.out.drew)).mono ?_
      rintro e w6 ⟨rfl, hb⟩
      have HB6 := Lib.hid (((Below.refl _ _).drew).tr hb); clear hb
      go_wp2_with fail
      refine HK.out _ _ (fun _ => MKS.out _ (cell_below HB6.out c5) (cell_below HB6.out c6)) ?_
      clear HK K
      refine Lex.lexW_some (os := ?_) (o := ?_) (by simp only [List.filterMap_nil]; rfl) (by simp only [List.getElem?_toArray, List.getElem?_cons_zero, List.getElem?_cons_succ]; rfl) ?_
      repeat (first | go_big_quiet_step (fail) | quiet_step (fail))
      refine wpQuiet_nil ?_
      intro K hK
      have HK := Lib.hid hK; clear hK
      go_wp2_with fail
      refine (rright_any _ qs _ (HQ.out.below (HBX.out.tr HB6.out))).mono ?_
      rintro e w7 ⟨rfl, hb⟩
      have HB7 := Lib.hid (HB6.out.tr hb); clear hb
      have hbq : (rightB qs == rightB qs) = true := by simp
      generalize rightB qs = bq at hbq ⊢
      go_wp2_with fail
      refine HK.out _ _ (fun _ => MKS.out _ (cell_below HB7.out c5) (cell_below HB7.out c6)) ?_
      clear HK K
      refine Lex.lexW_some (os := ?_) (o := ?_) (by simp only [List.filterMap_cons, List.filterMap_nil, List.getElem?_toArray, List.getElem?_cons_zero, List.getElem?_cons_succ]; rfl) (by simp only [List.getElem?_toArray, List.getElem?_cons_zero, List.getElem?_cons_succ]; rfl) ?_
      repeat (first | go_big_quiet_step (fail) | quiet_step (fail))
      refine wpQuiet_nil ?_
      intro K hK
      have HK := Lib.hid hK; clear hK
      go_wp2_with fail
      refine (right_any _ xs _ (HPX.out.below HB7.out)).mono ?_
      rintro e w8 ⟨rfl, hb⟩
      have HB8 := Lib.hid (HB7.out.tr hb); clear hb
      go_wp2_with fail
      refine HK.out _ _ (fun _ => MKS.out _ (cell_below HB8.out c5) (cell_below HB8.out c6)) ?_
      clear HK K
      refine Lex.lexW_some (os := ?_) (o := ?_) (by simp only [List.filterMap_nil]; rfl) (by simp only [List.getElem?_toArray, List.getElem?_cons_zero, List.getElem?_cons_succ]; rfl) ?_
      repeat (first | go_big_quiet_step (fail) | quiet_step (fail))
      refine wpQuiet_nil ?_
      intro K hK
      have HK := Lib.hid hK; clear hK
      go_wp2_with fail
      refine (rright_any _ xs _ (HPX.out.below HB8.out)).mono ?_
      rintro e w9 ⟨rfl, hb⟩
      have HB9 := Lib.hid (HB8.out.tr hb); clear hb
      have hbx : (rightB xs == rightB xs) = true := by simp
      generalize rightB xs = bx at hbx ⊢
      go_wp2_with fail
      refine HK.out _ _ (fun _ => MKS.out _ (cell_below HB9.out c5) (cell_below HB9.out c6)) ?_
      clear HK K
      refine Lex.lexW_some (os := ?_) (o := ?_) (by simp only [List.filterMap_cons, List.filterMap_nil, List.getElem?_toArray, List.getElem?_cons_zero, List.getElem?_cons_succ]; rfl) (by simp only [List.getElem?_toArray, List.getElem?_cons_zero, List.getElem?_cons_succ]; rfl) ?_
      repeat (first | go_big_quiet_step (fail) | quiet_step (fail))
      refine wpQuiet_nil ?_
      intro K hK
      have HK := Lib.hid hK; clear hK
      go_wp2_with fail
      refine (some_any _ l _ (HI.out.below (HBX.out.tr HB9.out))).mono ?_
      rintro e w10 ⟨v10, us10, rfl, hrow10, -, hb⟩
      have HB10 := Lib.hid (HB9.out.tr hb); have HR10 := Lib.hid hrow10.at_; clear hb hrow10
      go_wp2_with fail
      refine HK.out _ _ (fun _ => MKS.out _ (cell_below HB10.out c5) (cell_below HB10.out c6)) ?_
      clear HK K
      refine Lex.lexW_some (os := ?_) (o := ?_) (by simp only [List.filterMap_nil]; rfl) (by simp only [List.getElem?_toArray, List.getElem?_cons_zero, List.getElem?_cons_succ]; rfl) ?_
      repeat (first | go_big_quiet_step (fail) | quiet_step (fail))
      refine wpQuiet_nil ?_
      intro K hK
      have HK := Lib.hid hK; clear hK
      go_wp2_with fail
      refine (right_any _ (someL l) _ HR10.out).mono ?_
      rintro e w11 ⟨rfl, hb⟩
      rw [← HPS.out, HGP.out.right]
      have HB11 := Lib.hid (HB10.out.tr hb); clear hb
      go_wp2_with fail
      refine HK.out _ _ (fun _ => MKS.out _ (cell_below HB11.out c5) (cell_below HB11.out c6)) ?_
      clear HK K
      refine Lex.lexW_some (os := ?_) (o := ?_) (by simp only [List.filterMap_cons, List.filterMap_nil, List.getElem?_toArray, List.getElem?_cons_zero, List.getElem?_cons_succ]; rfl) (by simp only [List.getElem?_toArray, List.getElem?_cons_zero, List.getElem?_cons_succ]; rfl) ?_
      repeat (first | go_big_quiet_step (fail) | quiet_step (fail))
      refine wpQuiet_nil ?_
      intro K hK
      have HK := Lib.hid hK; clear hK
      go_wp2_with fail
      refine (awake_any _).mono ?_
      rintro e w12 ⟨rfl, hb⟩
      have HB12 := Lib.hid (HB11.out.tr hb); clear hb
      go_wp2_with fail
      refine HK.out _ _ (fun _ => MKS.out _ (cell_below HB12.out c5) (cell_below HB12.out c6)) ?_
      clear HK K
      refine Lex.lexW_none (os := ?_) (by simp only [List.filterMap_cons, List.filterMap_nil, List.getElem?_toArray, List.getElem?_cons_zero, List.getElem?_cons_succ]; rfl) ?_
      repeat (first | go_big_quiet_step (fail) | quiet_step (fail))
      refine wpQuiet_nil (Lex.lexW_nil ?_)
      go_wp2_with fail
      go_ret
      exact ⟨rfl, HBX.out.tr HB12.out⟩
end Go.Proofs.Ytgkenbjpmondeaa
