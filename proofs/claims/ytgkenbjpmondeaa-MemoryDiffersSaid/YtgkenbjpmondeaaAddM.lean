/- Proved: memory.Add adds a page, or puts another one in its place, for pages in order. -/
import Derived.Test.YtgkenbjpmondeaaInsert
import Derived.Test.YtgkenbjpmondeaaSearchA
import Derived.Test.YtgkenbjpmondeaaAddL
import Derived.Test.YtgkenbjpmondeaaClone
import Derived.Test.YtgkenbjpmondeaaWith
namespace Go.Proofs.Ytgkenbjpmondeaa
open Go.RowKit

def MAddPost (ps : List Pg) (p : Pg) (w : World) (e : Ending) (w' : World) : Prop := ∃ v, e = .returned (.tuple #[.agg #[v], .int .i64 0]) ∧ PagesAt w' v (addF (fil p.1 ps) p) ∧ Below w.heap.size w w'

theorem one_page {w : World} {g : Nat} {x : Int} {u : Value} {ws : List Int} (h : Box2 w g 31 (.int .i64 x) u) (hi : I64 x) (hu : IntsAt w u ws) : PagesAt w (.slice (some ⟨g, 0, none⟩) 1 1) [(x, ws)] := by
  refine ⟨_, 1, rfl, by simp, ⟨by omega, by simp⟩, fun k y zs hk => ?_⟩
  match k, hk with
  | 0, hk =>
    simp at hk
    obtain ⟨rfl, rfl⟩ := hk
    exact ⟨g, 0, u, rfl, hi, h.cell0, h.cell1, hu⟩
theorem right_one (x : Int) (ws : List Int) : rightB [(x, ws)] = pageB (x, ws) := by
  simp [rightB, okAt]
theorem madd_start (w : World) (A B C D : Value) : Box2 ((((w.alloc (.cells #[A] 24)).alloc (.cells #[B, C] 31)).alloc (.cells #[D] 24)).alloc (.cells #[B, C] 31)) (w.heap.size + 3) 31 B C := by
  have := Box2.new (((w.alloc (.cells #[A] 24)).alloc (.cells #[B, C] 31)).alloc (.cells #[D] 24)) 31 B C
  simpa using this

set_option maxHeartbeats 1000000 in
theorem madd_bad (v u : Value) (ps : List Pg) (x : Int) (ws : List Int) (w : World) (h : PagesAt w v ps) (hx : I64 x) (hu : IntsAt w u ws) (hp : pageB (x, ws) = false) :
    Calls Try.prog 26 #[.agg #[v], .agg #[.int .i64 x, u]] w (AddBad w) := by
  have HU := Lib.hid hu; have HX := Lib.hid hx; have HP := Lib.hid hp
  obtain ⟨A, cap, rfl, -, -, -⟩ := h
  obtain ⟨U, uc, rfl, -, -, -⟩ := hu
  obtain ⟨s0, s1, s2⟩ := add_start w (.slice A ps.length cap) (.int .i64 x) (.slice U ws.length uc) (.slice none 0 0)
  have s3 := madd_start w (.slice A ps.length cap) (.int .i64 x) (.slice U ws.length uc) (.slice none 0 0)
  have S2 := Lib.hid s2; have S3 := Lib.hid s3
  clear s0 s1 s2 s3 hx hp
  go_enter Try.func26, Try.ntmps26
  go_wp2_with fail
  refine (right_any _ [(x, ws)] _ (one_page S3.out HX.out (HU.out.below ((((Below.refl _ _).al _).al _).al _ |>.al _)))).mono ?_
  rintro e w1 ⟨rfl, hb1⟩
  rw [right_one, HP.out]
  have hbr := (S2.out.alloc (.cells #[.int .i64 x, .slice U ws.length uc] 31)).below hb1 (by simp <;> omega)
  have hB1 := (((((Below.refl w.heap.size w).al _).al _).al _).al _).tr hb1
  have cr := hbr.cell; have fr := hbr.frozen; have lr := hbr.lt
  have HBR := Lib.hid hbr; have HB1 := Lib.hid hB1
  clear hbr hB1 hb1
  go_wp2_with fail
  have hcS := (HBR.out.set_ (.slice none 0 0)).cell
  refine bodyPost_ret (v := .tuple #[.agg #[.slice none 0 0], .int .i64 1]) ?_ rfl ?_
  · simp [results, Try.results26, go_sem, hcS]
  exact ⟨rfl, HB1.out.setCell (show w.heap.size ≤ w.heap.size + 2 by omega) _⟩

/-- a page of a row of the call's own is replaced -/
theorem PagesRow.putPage {w : World} {B g cap j : Nat} {ps : List Pg} {us : List Value} {x : Int} {u : Value} {ws : List Int} (h : PagesRow w B (.slice (some ⟨g, 0, none⟩) ps.length cap) ps us)
    (hj : j < ps.length) (hx : I64 x) (hu : IntsAt w u ws) (hne : Off u ws (some g)) :
    PagesAt ((w.setCell ⟨g, j * 2, none⟩ (.int .i64 x)).setCell ⟨g, j * 2 + 1, none⟩ u) (.slice (some ⟨g, 0, none⟩) ps.length cap) (ps.set j (x, ws)) := by
  have gr : w.grownBy ((w.setCell ⟨g, j * 2, none⟩ (.int .i64 x)).setCell ⟨g, j * 2 + 1, none⟩ u) (some g) :=
    ⟨rfl, rfl, rfl, by simp [World.setCell], fun i hi hne => by
      rw [Below.heap_setCell _ _ _ _ (fun e => hne (by rw [e])), Below.heap_setCell _ _ _ _ (fun e => hne (by rw [e]))]⟩
  obtain ⟨V, vc, e0, hl, hmx, -⟩ := h.at_
  obtain ⟨rfl, rfl⟩ : V = some ⟨g, 0, none⟩ ∧ vc = cap := by simpa [eq_comm] using e0
  refine ⟨_, vc, by simp, by simpa using hl, hmx, fun k y zs hy => ?_⟩
  have hkl : k < ps.length := by have := (List.getElem?_eq_some_iff.1 hy).1; simpa using this
  obtain ⟨⟨y0, zs0⟩, hy0⟩ := get_of_lt hkl
  obtain ⟨g', cap', u', e1, hu', hi', q1, q2, q3, -⟩ := h.get hy0
  obtain ⟨rfl, rfl⟩ : g' = g ∧ cap' = vc := by simpa [eq_comm] using e1
  obtain ⟨-, cs, -, hcs⟩ := h
  obtain ⟨-, -, u'', hu'', -, -, hoff⟩ := hcs k y0 zs0 hy0
  obtain rfl : u' = u'' := by rw [hu'] at hu''; simpa using hu''
  have hoff' : Off u' zs0 (some g') := hoff
  by_cases hkj : k = j
  · subst hkj
    rw [List.getElem?_set_self hkl] at hy
    simp at hy
    obtain ⟨rfl, rfl⟩ := hy
    refine ⟨g', 0, u, rfl, hx, ?_, ?_, hu.keep gr hne⟩
    · rw [World.cell?_setCell_other _ _ _ _ (by simp), Nat.zero_add]
      exact World.cell?_setCell_same w _ _ q1
    · rw [Nat.zero_add]
      have q2' : (w.setCell ⟨g', k * 2, none⟩ (.int .i64 x)).cell? ⟨g', k * 2 + 1, none⟩ = some u' := by
        rw [World.cell?_setCell_other _ _ _ _ (by simp)]
        exact q2
      exact World.cell?_setCell_same _ _ _ q2'
  · rw [List.getElem?_set_ne (Ne.symm hkj), hy0] at hy
    simp at hy
    obtain ⟨rfl, rfl⟩ := hy
    refine ⟨g', 0, u', rfl, hi', ?_, ?_, q3.keep gr hoff'⟩
    · rw [World.cell?_setCell_other _ _ _ _ (by simp <;> omega), World.cell?_setCell_other _ _ _ _ (by simp <;> omega), Nat.zero_add]
      exact q1
    · rw [World.cell?_setCell_other _ _ _ _ (by simp <;> omega), World.cell?_setCell_other _ _ _ _ (by simp <;> omega), Nat.zero_add]
      exact q2

theorem Box2.frz {w : World} {g : Nat} {t : TypeId} {a b : Value} (h : Box2 w g t a b) (o : Nat) : w.frozen? ⟨g, o, none⟩ = false := by unfold Box2 at h; simp [World.frozen?, h]
theorem zpage (w : World) (A : Value) : Box2 ((w.alloc (.cells #[A] 24)).alloc (.cells #[.int .i64 0, .slice none 0 0] 31)).drew (w.heap.size + 1) 31 (.int .i64 0) (.slice none 0 0) := by
  have := Box2.new (w.alloc (.cells #[A] 24)) 31 (.int .i64 0) (.slice none 0 0)
  rw [World.size_alloc] at this
  exact this
theorem ins_end' (B g hh r : Nat) (ps : List Pg) (hr : r = ps.length) (us : List Value) (x : Int) (u : Value) (ws : List Int) (w : World) (hrow : PagesRow w B (.slice (some ⟨g, 0, none⟩) ps.length ps.length) ps us) (hl : ps.length ≤ 100000)
    (p1 : w.cell? ⟨hh, 0, none⟩ = some (.int .i64 x)) (p2 : w.cell? ⟨hh, 1, none⟩ = some u) (hi : I64 x) (hu : IntsAt w u ws) (hne : Off u ws (some g)) (hB : B ≤ w.heap.size) :
    Calls Try.prog 40 #[.slice (some ⟨g, 0, none⟩) ps.length ps.length, .int .i64 r, .slice (some ⟨hh, 0, none⟩) 1 1] w (InsPost ps us B r x u ws g w) := by
  subst hr
  exact insert_end B g hh ps us x u ws w hrow hl p1 p2 hi hu hne hB
theorem addr_ne {a b c d : Nat} (h : a ≠ c) : (⟨a, b, none⟩ : Addr) ≠ ⟨c, d, none⟩ := fun e => h (by injection e)
theorem Box2.set2 {w : World} {g : Nat} {t : TypeId} {a b : Value} (h : Box2 w g t a b) (x y : Value) : Box2 ((w.setCell ⟨g, 0, none⟩ x).setCell ⟨g, 1, none⟩ y) g t x y := by
  unfold Box2 at h ⊢
  simp [World.setCell, Array.getElem?_modify, h]
theorem IntsOwn.far {w : World} {B : Nat} {v : Value} {xs : List Int} (h : IntsOwn w B v xs) {p : Addr} (hp : p.block < B) (x : Value) : IntsOwn (w.setCell p x) B v xs :=
  h.keep (grownBy_setCell w p x) (by
    cases hv : v.ownBlock with
    | none => exact .inl rfl
    | some g => right; intro e; injection e with e; have := (h.lt g hv).1; omega)
set_option maxRecDepth 1000000 in
set_option maxHeartbeats 4000000 in
theorem madd_any (v u : Value) (ps : List Pg) (x : Int) (ws : List Int) (w : World) (h : PagesAt w v ps) (hg : Good ps) (hl5 : ps.length < 50000) (hx : I64 x) (hu : IntsAt w u ws) (hp : pageB (x, ws) = true) :
    Calls Try.prog 26 #[.agg #[v], .agg #[.int .i64 x, u]] w (MAddPost ps (x, ws) w) := by
  have HU := Lib.hid hu; have HX := Lib.hid hx; have HP := Lib.hid hp; have HPA := Lib.hid h; have HG := Lib.hid hg
  obtain ⟨A, cap, rfl, hcap, hm, hc⟩ := h
  have Hc := Lib.hid hc
  have hm' := hm.1
  obtain ⟨U, uc, rfl, -, -, -⟩ := hu
  obtain ⟨s0, s1, s2⟩ := add_start w (.slice A ps.length cap) (.int .i64 x) (.slice U ws.length uc) (.slice none 0 0)
  have s3 := madd_start w (.slice A ps.length cap) (.int .i64 x) (.slice U ws.length uc) (.slice none 0 0)
  have S0 := Lib.hid s0; have S1 := Lib.hid s1; have S2 := Lib.hid s2; have S3 := Lib.hid s3
  clear s0 s1 s2 s3 hx hp hc hm hg
  go_enter Try.func26, Try.ntmps26
  go_wp2_with fail
  refine (right_any _ [(x, ws)] _ (one_page S3.out HX.out (HU.out.below ((((Below.refl _ _).al _).al _).al _ |>.al _)))).mono ?_
  rintro e w1 ⟨rfl, hb1⟩
  rw [right_one, HP.out]
  have hbm := (S0.out.alloc (.cells #[.int .i64 x, .slice U ws.length uc] 31)).below hb1 (by simp <;> omega)
  have hbp := (S1.out.alloc (.cells #[.int .i64 x, .slice U ws.length uc] 31)).below hb1 (by simp <;> omega)
  have hbr := (S2.out.alloc (.cells #[.int .i64 x, .slice U ws.length uc] 31)).below hb1 (by simp <;> omega)
  have hB1 := (((((Below.refl w.heap.size w).al _).al _).al _).al _).tr hb1
  have hs1 : w.heap.size + 4 ≤ w1.heap.size := by have := hb1.size; simp at this; omega
  have cm := hbm.cell; have lm := hbm.lt; have cp0 := hbp.cell0; have cp1 := hbp.cell1; have lp := hbp.lt
  have HBM := Lib.hid hbm; have HBP := Lib.hid hbp; have HBR := Lib.hid hbr; have HB1 := Lib.hid hB1
  clear hbm hbp hbr hB1 hb1 S0 S1 S2 S3
  go_wp2_with fail
  refine (searchA_any ps.length w.heap.size (w.heap.size + 1) (fun i => decide (x ≤ (ps.getD i (0, [])).1)) _ (by omega) ?hf).mono ?_
  case hf =>
    intro i hi k
    obtain ⟨⟨y, zs⟩, hy⟩ := get_of_lt hi
    obtain ⟨b, off, u, rfl, hi', c1, c2, hu⟩ := Hc.out i y zs hy
    refine (addLess_any i ps.length cap b off _ _ y x (w1.drewN k) hi (by exact HBM.out.cell) (by exact HBP.out.cell0) (by exact cell_below HB1.out c1)).mono ?_
    rintro e w' ⟨rfl, h2⟩
    exact ⟨by rw [base_of hy], h2⟩
  rintro e w' ⟨r, rfl, hr1, hr2, hr3, q, rfl⟩
  have HR2 := Lib.hid hr2; have HR3 := Lib.hid hr3; clear hr2 hr3
  have HB2 := Lib.hid (below_drewN HB1.out q)
  have HBM2 : Hid (Box (w1.drewN q) w.heap.size 24 (.slice A ps.length cap)) := HBM
  have HBP2 : Hid (Box2 (w1.drewN q) (w.heap.size + 1) 31 (.int .i64 x) (.slice U ws.length uc)) := HBP
  have HBR2 : Hid (Box (w1.drewN q) (w.heap.size + 2) 24 (.slice none 0 0)) := HBR
  have hs2 : w.heap.size + 4 ≤ (w1.drewN q).heap.size := hs1
  clear HBM HBP HBR HB1 cm lm cp0 cp1 lp hs1
  generalize w1.drewN q = w2 at HB2 HBM2 HBP2 HBR2 hs2 ⊢
  have cm := HBM2.out.cell; have lm := HBM2.out.lt; have cp0 := HBP2.out.cell0; have cp1 := HBP2.out.cell1; have lp := HBP2.out.lt
  have hr0 : (0 : Int) ≤ (r : Int) := Int.natCast_nonneg _
  by_cases hrn : r < ps.length
  · obtain ⟨⟨y, zs⟩, hy⟩ := get_of_lt hrn
    obtain ⟨b, off, uy, rfl, hiy, c1, c2, huy⟩ := Hc.out r y zs hy
    have d1 := cell_below HB2.out c1
    have hbl := World.block_lt_of_cell? _ _ c1
    simp only at hbl
    have hxy : x ≤ y := by
      rcases HR3.out with h | h
      · omega
      · rw [base_of hy] at h; simpa using h
    have HY := Lib.hid hy
    clear hy c1 c2 huy hiy
    have hrn' : (r : Int) < (ps.length : Int) := by omega
    have tr1 : decide ((r : Int) < (ps.length : Int)) = true := decide_eq_true hrn'
    have tr2 : decide (r < ps.length) = true := decide_eq_true hrn
    by_cases hyx : y = x
    · have ty : (y == x) = true := by simp [hyx]
      have HYX := Lib.hid hyx; clear hyx
      go_wp2_with fail
      go_quiet (fail)
      go_wp2_with fail
      refine (clone_full _ ps _ (HPA.out.below (below_drewN HB2.out _)) (goodSmall HG.out)).mono ?_
      rintro e w3 ⟨g, us, rfl, hd, hb3⟩
      have hB3 : Below w2.heap.size w2 w3 := (below_drewN (Below.refl _ _) _).tr hb3
      have hbp3 := HBP2.out.below hB3 HBP2.out.lt
      have hbr3 := HBR2.out.below hB3 HBR2.out.lt
      have hd3 : Deep w3 w2.heap.size (.slice (some ⟨g, 0, none⟩) ps.length ps.length) ps us := hd
      have hgl := hd3.1.lt g rfl
      have hs3 : w.heap.size + 4 ≤ w3.heap.size := by have := hB3.size; omega
      have HD3 := Lib.hid hd3; have HBP3 := Lib.hid hbp3; have HBR3 := Lib.hid hbr3; have HB3 := Lib.hid (HB2.out.tr hB3)
      clear hd hb3 hB3 hbp3 hbr3 hd3 cm lm cp0 cp1 lp
      have p0 : (w3.alloc (.cells #[.slice (some ⟨g, 0, none⟩) ps.length ps.length] 24)).cell? ⟨w.heap.size + 1, 0, none⟩ = some (.int .i64 x) := (HBP3.out.alloc _).cell0
      have p1 : (w3.alloc (.cells #[.slice (some ⟨g, 0, none⟩) ps.length ps.length] 24)).cell? ⟨w.heap.size + 1, 1, none⟩ = some (.slice U ws.length uc) := (HBP3.out.alloc _).cell1
      have hws : ws.length ≤ 64 := by have := pageB_len HP.out; omega
      have hne1 : w.heap.size + 1 < w3.heap.size := by omega
      go_wp2_with fail
      go_cut [9] (fun s9 wx => ∃ (gp : Nat) (r' : Option Addr) (c' : Nat), s9 = .pointer (some ⟨gp, 0, none⟩) ∧ Box2 wx gp 31 (.int .i64 x) (.slice r' ws.length c') ∧ IntsOwn wx (w3.heap.size + 1) (.slice r' ws.length c') ws ∧ w3.heap.size + 1 ≤ gp ∧ Below (w3.heap.size + 1) (w3.alloc (.cells #[.slice (some ⟨g, 0, none⟩) ps.length ps.length] 24)) wx)
      case first =>
        go_region_held3 (fun w' => w'.cell? ⟨w.heap.size + 1, 0, none⟩ = some (.int .i64 x) ∧ w'.cell? ⟨w.heap.size + 1, 1, none⟩ = some (.slice U ws.length uc)) (first | go_keep | (refine ⟨?_, ?_⟩ <;> (rw [World.cell?_setCell_other _ _ _ _ (addr_ne (by omega)), World.cell?_setCell_other _ _ _ _ (addr_ne (by omega))]; assumption)))
          (first | (go_at_call 39; refine (sclone_any _ ws _ ?_ (by omega)).mono ?_; (refine HU.out.below ?_; (repeat (first | exact HB3.out | refine Below.drew ?_ | refine Below.al ?_ _))); rintro e w4 ⟨v4, rfl, ho4, hb4⟩; obtain ⟨R4, c4, rfl⟩ := ho4.shape; have k0 : w4.cell? ⟨w.heap.size + 1, 0, none⟩ = some (.int .i64 x) := cell_below hb4 (by first | exact p0 | exact cell_below (((Below.refl _ _).al _).drew) p0); have k1 : w4.cell? ⟨w.heap.size + 1, 1, none⟩ = some (.slice U ws.length uc) := cell_below hb4 (by first | exact p1 | exact cell_below (((Below.refl _ _).al _).drew) p1); (try (have hz := Box2.below (zpage w3 _) hb4 (by simp); have z0 := hz.cell0; have z1 := hz.cell1; have z2 := hz.frz 0; have z3 := hz.frz 1; have z4 := hz.lt; have HZ := Lib.hid hz; clear hz)); have HO4 := Lib.hid ho4; have HB4 := Lib.hid hb4; clear ho4 hb4))
        all_goals go_wp2_with fail
        all_goals go_meet
        · exact ⟨_, R4, c4, rfl, Box2.new _ _ _ _, (HO4.out.base (by simp)).below ((Below.refl _ _).al _), by have := HB4.out.size; simp at this; omega, (((Below.refl _ _).drew).trans (HB4.out.mono (by simp))).alloc (by have := HB4.out.size; simp at this; omega) _⟩
        · exact ⟨_, R4, c4, rfl, HZ.out.set2 _ _, ((HO4.out.far (p := ⟨w3.heap.size + 1, 0, none⟩) (by simp) _).far (p := ⟨w3.heap.size + 1, 1, none⟩) (by simp) _).base (by simp), Nat.le_refl _, (((((Below.refl _ _).alloc (by simp) _).drew).trans (HB4.out.mono (by simp))).setCell (by simp) _).setCell (by simp) _⟩
      case rest =>
        obtain ⟨gp, r', c', rfl, hbx, hio, hgp, hbw⟩ := hcut
        have bw3 : Below w3.heap.size w3 wc := ((Below.refl _ _).al _).trans (hbw.mono (by omega))
        have hbr4 := (Box.new w3 24 (.slice (some ⟨g, 0, none⟩) ps.length ps.length)).below hbw (by omega)
        have hbs4 := HBR3.out.below bw3 (by omega)
        have hdw := HD3.out.below bw3
        have hsw := bw3.size
        have cr4 := hbr4.cell; have fr4 := hbr4.frozen; have lr4 := hbr4.lt; have cs4 := hbs4.cell; have fs4 := hbs4.frozen; have ls4 := hbs4.lt; have cg0 := hbx.cell0; have cg1 := hbx.cell1; have lg := hbx.lt
        have hgw := (hdw.1.lt g rfl)
        have hne4 : Off (.slice r' ws.length c') ws (some g) := fun _ e => by
          have := (hio.lt g e).1
          omega
        have hfz : ∀ o, wc.frozen? ⟨g, o, none⟩ = false := fun o => by
          obtain ⟨-, cs, ho, -⟩ := hdw.1
          rcases ho.2 with ⟨e, _⟩ | ⟨g', cap, cur, e, hB, hh, _⟩
          · simp at e
          · have : g' = g := by simp at e; exact e.1.symm
            subst this
            simp [World.frozen?, hh]
        have HBR4 := Lib.hid hbr4; have HBS4 := Lib.hid hbs4; have HDW := Lib.hid hdw; have HIO := Lib.hid hio; have HBX4 := Lib.hid hbx; have HNE4 := Lib.hid hne4; have HBW := Lib.hid (HB3.out.tr bw3); have HFZ := Lib.hid hfz
        clear hbr4 hbs4 hdw hio hbx hne4 hfz bw3 hbw p0 p1
        obtain ⟨g', cap', uo, e1, -, -, q1, q2, -, -⟩ := HDW.out.1.get HY.out
        obtain ⟨rfl, rfl⟩ : g = g' ∧ ps.length = cap' := by simpa using e1
        have z0 := HFZ.out (r * 2); have z1 := HFZ.out (r * 2 + 1)
        clear e1
        go_wp2_with fail
        have hcS := (((HBS4.out.far (p := ⟨g, r * 2, none⟩) (by simp; omega) (.int .i64 x)).far (p := ⟨g, r * 2 + 1, none⟩) (by simp; omega) (.slice r' ws.length c')).set_ (.slice (some ⟨g, 0, none⟩) ps.length ps.length)).cell
        refine bodyPost_ret (v := .tuple #[.agg #[.slice (some ⟨g, 0, none⟩) ps.length ps.length], .int .i64 0]) ?_ rfl ?_
        · simp [results, Try.results26, go_sem, hcS]
        have hfin := (HDW.out.1.keep (grownBy_setCell wc ⟨w.heap.size + 2, 0, none⟩ (.slice (some ⟨g, 0, none⟩) ps.length ps.length)) (.inr (by simp [Value.ownBlock]; omega)) (fun k y' zs' u' a1 a2 => by
          intro hn0 e0
          have := ((HDW.out.2.1 k y' zs' u' a1 a2).1.lt _ e0).1
          simp at this; omega)).putPage (j := r) hrn HX.out ((HIO.out.far (p := ⟨w.heap.size + 2, 0, none⟩) (by simp; omega) _).at_) HNE4.out
        refine ⟨_, rfl, ?_, ((HBW.out.setCell (by simp; omega) _).setCell (by simp; omega) _).setCell (show w.heap.size ≤ w.heap.size + 2 by omega) _⟩
        rw [setCell_comm _ _ _ _ _ (by simp; omega), setCell_comm wc _ _ _ _ (by simp; omega)]
        rw [← add_there (p := (x, ws)) (r := r) (ws := zs) HG.out.goodL (by rw [HY.out, HYX.out])]
        exact hfin
    · have ty : (y == x) = false := by simp [hyx]
      have hxy' : x < y := by omega
      have HYX := Lib.hid hyx; clear hyx
      have hr2' : r = 0 ∨ ∃ q, ps[r - 1]? = some q ∧ q.1 < (x, ws).1 := by
        rcases HR2.out with h | h
        · exact .inl h
        · obtain ⟨⟨z, ts⟩, hz⟩ := get_of_lt (show r - 1 < ps.length by omega)
          rw [base_of hz] at h
          exact .inr ⟨_, hz, by simpa using h⟩
      have HR2' := Lib.hid hr2'; clear hr2'
      go_wp2_with fail
      go_quiet (fail)
      go_wp2_with fail
      refine (clone_full _ ps _ (HPA.out.below (below_drewN HB2.out _)) (goodSmall HG.out)).mono ?_
      rintro e w3 ⟨g, us, rfl, hd, hb3⟩
      have hB3 : Below w2.heap.size w2 w3 := (below_drewN (Below.refl _ _) _).tr hb3
      have hbp3 := HBP2.out.below hB3 HBP2.out.lt
      have hbr3 := HBR2.out.below hB3 HBR2.out.lt
      have hd3 : Deep w3 w2.heap.size (.slice (some ⟨g, 0, none⟩) ps.length ps.length) ps us := hd
      have hgl := hd3.1.lt g rfl
      have hs3 : w.heap.size + 4 ≤ w3.heap.size := by have := hB3.size; omega
      have HD3 := Lib.hid hd3; have HBP3 := Lib.hid hbp3; have HBR3 := Lib.hid hbr3; have HB3 := Lib.hid (HB2.out.tr hB3)
      clear hd hb3 hB3 hbp3 hbr3 hd3 cm lm cp0 cp1 lp
      have p0 : (w3.alloc (.cells #[.slice (some ⟨g, 0, none⟩) ps.length ps.length] 24)).cell? ⟨w.heap.size + 1, 0, none⟩ = some (.int .i64 x) := (HBP3.out.alloc _).cell0
      have p1 : (w3.alloc (.cells #[.slice (some ⟨g, 0, none⟩) ps.length ps.length] 24)).cell? ⟨w.heap.size + 1, 1, none⟩ = some (.slice U ws.length uc) := (HBP3.out.alloc _).cell1
      have hws : ws.length ≤ 64 := by have := pageB_len HP.out; omega
      have hne1 : w.heap.size + 1 < w3.heap.size := by omega
      go_wp2_with fail
      go_cut [9] (fun s9 wx => ∃ (gp : Nat) (r' : Option Addr) (c' : Nat), s9 = .pointer (some ⟨gp, 0, none⟩) ∧ Box2 wx gp 31 (.int .i64 x) (.slice r' ws.length c') ∧ IntsOwn wx (w3.heap.size + 1) (.slice r' ws.length c') ws ∧ w3.heap.size + 1 ≤ gp ∧ Below (w3.heap.size + 1) (w3.alloc (.cells #[.slice (some ⟨g, 0, none⟩) ps.length ps.length] 24)) wx)
      case first =>
        go_region_held3 (fun w' => w'.cell? ⟨w.heap.size + 1, 0, none⟩ = some (.int .i64 x) ∧ w'.cell? ⟨w.heap.size + 1, 1, none⟩ = some (.slice U ws.length uc)) (first | go_keep | (refine ⟨?_, ?_⟩ <;> (rw [World.cell?_setCell_other _ _ _ _ (addr_ne (by omega)), World.cell?_setCell_other _ _ _ _ (addr_ne (by omega))]; assumption)))
          (first | (go_at_call 39; refine (sclone_any _ ws _ ?_ (by omega)).mono ?_; (refine HU.out.below ?_; (repeat (first | exact HB3.out | refine Below.drew ?_ | refine Below.al ?_ _))); rintro e w4 ⟨v4, rfl, ho4, hb4⟩; obtain ⟨R4, c4, rfl⟩ := ho4.shape; have k0 : w4.cell? ⟨w.heap.size + 1, 0, none⟩ = some (.int .i64 x) := cell_below hb4 (by first | exact p0 | exact cell_below (((Below.refl _ _).al _).drew) p0); have k1 : w4.cell? ⟨w.heap.size + 1, 1, none⟩ = some (.slice U ws.length uc) := cell_below hb4 (by first | exact p1 | exact cell_below (((Below.refl _ _).al _).drew) p1); (try (have hz := Box2.below (zpage w3 _) hb4 (by simp); have z0 := hz.cell0; have z1 := hz.cell1; have z2 := hz.frz 0; have z3 := hz.frz 1; have z4 := hz.lt; have HZ := Lib.hid hz; clear hz)); have HO4 := Lib.hid ho4; have HB4 := Lib.hid hb4; clear ho4 hb4))
        all_goals go_wp2_with fail
        all_goals go_meet
        · exact ⟨_, R4, c4, rfl, Box2.new _ _ _ _, (HO4.out.base (by simp)).below ((Below.refl _ _).al _), by have := HB4.out.size; simp at this; omega, (((Below.refl _ _).drew).trans (HB4.out.mono (by simp))).alloc (by have := HB4.out.size; simp at this; omega) _⟩
        · exact ⟨_, R4, c4, rfl, HZ.out.set2 _ _, ((HO4.out.far (p := ⟨w3.heap.size + 1, 0, none⟩) (by simp) _).far (p := ⟨w3.heap.size + 1, 1, none⟩) (by simp) _).base (by simp), Nat.le_refl _, (((((Below.refl _ _).alloc (by simp) _).drew).trans (HB4.out.mono (by simp))).setCell (by simp) _).setCell (by simp) _⟩
      case rest =>
        obtain ⟨gp, r', c', rfl, hbx, hio, hgp, hbw⟩ := hcut
        have bw3 : Below w3.heap.size w3 wc := ((Below.refl _ _).al _).trans (hbw.mono (by omega))
        have hbr4 := (Box.new w3 24 (.slice (some ⟨g, 0, none⟩) ps.length ps.length)).below hbw (by omega)
        have hbs4 := HBR3.out.below bw3 (by omega)
        have hdw := HD3.out.below bw3
        have hsw := bw3.size
        have cr4 := hbr4.cell; have fr4 := hbr4.frozen; have lr4 := hbr4.lt; have cs4 := hbs4.cell; have fs4 := hbs4.frozen; have ls4 := hbs4.lt; have cg0 := hbx.cell0; have cg1 := hbx.cell1; have lg := hbx.lt
        have hgw := (hdw.1.lt g rfl)
        have hne4 : Off (.slice r' ws.length c') ws (some g) := fun _ e => by
          have := (hio.lt g e).1
          omega
        have hfz : ∀ o, wc.frozen? ⟨g, o, none⟩ = false := fun o => by
          obtain ⟨-, cs, ho, -⟩ := hdw.1
          rcases ho.2 with ⟨e, _⟩ | ⟨g', cap, cur, e, hB, hh, _⟩
          · simp at e
          · have : g' = g := by simp at e; exact e.1.symm
            subst this
            simp [World.frozen?, hh]
        have HBR4 := Lib.hid hbr4; have HBS4 := Lib.hid hbs4; have HDW := Lib.hid hdw; have HIO := Lib.hid hio; have HBX4 := Lib.hid hbx; have HNE4 := Lib.hid hne4; have HBW := Lib.hid (HB3.out.tr bw3); have HFZ := Lib.hid hfz
        clear hbr4 hbs4 hdw hio hbx hne4 hfz bw3 hbw p0 p1
        go_wp2_with fail
        refine (insert_mid w2.heap.size g wc.heap.size r ps us x (.slice r' ws.length c') ws _ (HDW.out.1.below ((Below.refl _ _).al _)) (by omega) hrn (by exact (Box2.new _ _ _ _).cell0) (by exact (Box2.new _ _ _ _).cell1) HX.out (HIO.out.at_.below ((Below.refl _ _).al _)) (by simp; omega)).mono ?_
        rintro e w5 ⟨v5, rfl, hrow5, hg5, hat5⟩
        obtain ⟨V5, L5, c5, hv5⟩ : ∃ V L c, v5 = .slice V L c := by obtain ⟨V, c, h⟩ := hrow5.shape; exact ⟨V, _, c, h⟩
        have hbr5 := (HBR4.out.alloc (.cells #[.int .i64 x, .slice r' ws.length c'] 31)).keep hg5 (by simp; omega)
        have hbs5 := (HBS4.out.alloc (.cells #[.int .i64 x, .slice r' ws.length c'] 31)).keep hg5 (by simp; omega)
        have hul := HDW.out.1.1
        have hB5 : Below w.heap.size w w5 := (HBW.out.al _).grown hg5 (by have := HBW.out.size; simp; omega) (fun k hk => by simp at hk; omega)
        have hoff : ∀ bl : Nat, bl < w2.heap.size ∨ bl = w3.heap.size → (v5.ownBlock = none ∨ v5.ownBlock ≠ some bl) ∧ ∀ (k : Nat) (y : Int) (zs : List Int) (u' : Value), (ps.take r ++ [(x, ws)] ++ ps.drop r)[k]? = some (y, zs) → (us.take r ++ [Value.slice r' ws.length c'] ++ us.drop r)[k]? = some u' → Off u' zs (some bl) := fun bl hbl => by
          refine ⟨.inr ?_, fun k y zs u' a1 a2 hn0 e0 => ?_⟩
          · rcases hat5 with h | h <;> rw [h] <;> simp <;> omega
          · rcases Nat.lt_trichotomy k r with hk | hk | hk
            · rw [List.append_assoc, List.getElem?_append_left (by simp; omega), List.getElem?_take, if_pos hk] at a1 a2
              have h1 := (HD3.out.2.1 k y zs u' a1 a2).1.lt _ e0
              omega
            · subst hk
              rw [List.append_assoc, List.getElem?_append_right (by simp; omega), show k - (us.take k).length = 0 by simp; omega] at a2
              simp at a2
              subst a2
              have := (HIO.out.lt _ e0).1
              omega
            · rw [List.getElem?_append_right (by simp; omega), List.getElem?_drop, show r + (k - (ps.take r ++ [(x, ws)]).length) = k - 1 by simp; omega] at a1
              rw [List.getElem?_append_right (by simp; omega), List.getElem?_drop, show r + (k - (us.take r ++ [Value.slice r' ws.length c']).length) = k - 1 by simp; omega] at a2
              have h1 := (HD3.out.2.1 (k - 1) y zs u' a1 a2).1.lt _ e0
              omega
        have hfin := (hrow5.keep (grownBy_setCell w5 ⟨w3.heap.size, 0, none⟩ v5) (hoff _ (.inr rfl)).1 (hoff _ (.inr rfl)).2)
        have hfin2 := (hfin.keep (grownBy_setCell _ ⟨w.heap.size + 2, 0, none⟩ v5) (hoff (w.heap.size + 2) (.inl (by omega))).1 (hoff (w.heap.size + 2) (.inl (by omega))).2).at_
        rw [add_new (p := (x, ws)) HG.out.goodL hr1 HR2'.out (.inr ⟨_, HY.out, hxy'⟩)] at hfin2
        subst hv5
        have cr5 := hbr5.cell; have fr5 := hbr5.frozen; have lr5 := hbr5.lt; have cs5 := hbs5.cell; have fs5 := hbs5.frozen; have ls5 := hbs5.lt
        have HFIN := Lib.hid hfin2; have HBR5 := Lib.hid hbr5; have HBS5 := Lib.hid hbs5; have HB5 := Lib.hid hB5
        clear hfin hfin2 hbr5 hbs5 hB5 hoff hrow5 hg5 hat5 hul
        go_wp2_with fail
        have hcS := ((HBS5.out.far (p := ⟨w3.heap.size, 0, none⟩) (by simp; omega) (.slice V5 L5 c5)).set_ (.slice V5 L5 c5)).cell
        refine bodyPost_ret (v := .tuple #[.agg #[.slice V5 L5 c5], .int .i64 0]) ?_ rfl ?_
        · simp [results, Try.results26, go_sem, hcS]
        exact ⟨_, rfl, HFIN.out, (HB5.out.setCell (by simp; omega) _).setCell (show w.heap.size ≤ w.heap.size + 2 by omega) _⟩
  · have hrn' : r = ps.length := by omega
    have tr1 : decide ((r : Int) < (ps.length : Int)) = false := decide_eq_false (by omega)
    have tr2 : decide (r < ps.length) = false := decide_eq_false hrn
    have hr2' : r = 0 ∨ ∃ q, ps[r - 1]? = some q ∧ q.1 < (x, ws).1 := by
      rcases HR2.out with h | h
      · exact .inl h
      · rcases Nat.eq_zero_or_pos r with h0 | h0
        · exact .inl h0
        · obtain ⟨⟨z, ts⟩, hz⟩ := get_of_lt (show r - 1 < ps.length by omega)
          rw [base_of hz] at h
          exact .inr ⟨_, hz, by simpa using h⟩
    have HR2' := Lib.hid hr2'; have HRN := Lib.hid hrn'; clear hr2' hrn'
    go_wp2_with fail
    go_quiet (fail)
    go_wp2_with fail
    refine (clone_full _ ps _ (HPA.out.below (below_drewN HB2.out _)) (goodSmall HG.out)).mono ?_
    rintro e w3 ⟨g, us, rfl, hd, hb3⟩
    have hB3 : Below w2.heap.size w2 w3 := (below_drewN (Below.refl _ _) _).tr hb3
    have hbp3 := HBP2.out.below hB3 HBP2.out.lt
    have hbr3 := HBR2.out.below hB3 HBR2.out.lt
    have hd3 : Deep w3 w2.heap.size (.slice (some ⟨g, 0, none⟩) ps.length ps.length) ps us := hd
    have hgl := hd3.1.lt g rfl
    have hs3 : w.heap.size + 4 ≤ w3.heap.size := by have := hB3.size; omega
    have HD3 := Lib.hid hd3; have HBP3 := Lib.hid hbp3; have HBR3 := Lib.hid hbr3; have HB3 := Lib.hid (HB2.out.tr hB3)
    clear hd hb3 hB3 hbp3 hbr3 hd3 cm lm cp0 cp1 lp
    have p0 : (w3.alloc (.cells #[.slice (some ⟨g, 0, none⟩) ps.length ps.length] 24)).cell? ⟨w.heap.size + 1, 0, none⟩ = some (.int .i64 x) := (HBP3.out.alloc _).cell0
    have p1 : (w3.alloc (.cells #[.slice (some ⟨g, 0, none⟩) ps.length ps.length] 24)).cell? ⟨w.heap.size + 1, 1, none⟩ = some (.slice U ws.length uc) := (HBP3.out.alloc _).cell1
    have hws : ws.length ≤ 64 := by have := pageB_len HP.out; omega
    have hne1 : w.heap.size + 1 < w3.heap.size := by omega
    go_wp2_with fail
    go_cut [9] (fun s9 wx => ∃ (gp : Nat) (r' : Option Addr) (c' : Nat), s9 = .pointer (some ⟨gp, 0, none⟩) ∧ Box2 wx gp 31 (.int .i64 x) (.slice r' ws.length c') ∧ IntsOwn wx (w3.heap.size + 1) (.slice r' ws.length c') ws ∧ w3.heap.size + 1 ≤ gp ∧ Below (w3.heap.size + 1) (w3.alloc (.cells #[.slice (some ⟨g, 0, none⟩) ps.length ps.length] 24)) wx)
    case first =>
      go_region_held3 (fun w' => w'.cell? ⟨w.heap.size + 1, 0, none⟩ = some (.int .i64 x) ∧ w'.cell? ⟨w.heap.size + 1, 1, none⟩ = some (.slice U ws.length uc)) (first | go_keep | (refine ⟨?_, ?_⟩ <;> (rw [World.cell?_setCell_other _ _ _ _ (addr_ne (by omega)), World.cell?_setCell_other _ _ _ _ (addr_ne (by omega))]; assumption)))
        (first | (go_at_call 39; refine (sclone_any _ ws _ ?_ (by omega)).mono ?_; (refine HU.out.below ?_; (repeat (first | exact HB3.out | refine Below.drew ?_ | refine Below.al ?_ _))); rintro e w4 ⟨v4, rfl, ho4, hb4⟩; obtain ⟨R4, c4, rfl⟩ := ho4.shape; have k0 : w4.cell? ⟨w.heap.size + 1, 0, none⟩ = some (.int .i64 x) := cell_below hb4 (by first | exact p0 | exact cell_below (((Below.refl _ _).al _).drew) p0); have k1 : w4.cell? ⟨w.heap.size + 1, 1, none⟩ = some (.slice U ws.length uc) := cell_below hb4 (by first | exact p1 | exact cell_below (((Below.refl _ _).al _).drew) p1); (try (have hz := Box2.below (zpage w3 _) hb4 (by simp); have z0 := hz.cell0; have z1 := hz.cell1; have z2 := hz.frz 0; have z3 := hz.frz 1; have z4 := hz.lt; have HZ := Lib.hid hz; clear hz)); have HO4 := Lib.hid ho4; have HB4 := Lib.hid hb4; clear ho4 hb4))
      all_goals go_wp2_with fail
      all_goals go_meet
      · exact ⟨_, R4, c4, rfl, Box2.new _ _ _ _, (HO4.out.base (by simp)).below ((Below.refl _ _).al _), by have := HB4.out.size; simp at this; omega, (((Below.refl _ _).drew).trans (HB4.out.mono (by simp))).alloc (by have := HB4.out.size; simp at this; omega) _⟩
      · exact ⟨_, R4, c4, rfl, HZ.out.set2 _ _, ((HO4.out.far (p := ⟨w3.heap.size + 1, 0, none⟩) (by simp) _).far (p := ⟨w3.heap.size + 1, 1, none⟩) (by simp) _).base (by simp), Nat.le_refl _, (((((Below.refl _ _).alloc (by simp) _).drew).trans (HB4.out.mono (by simp))).setCell (by simp) _).setCell (by simp) _⟩
    case rest =>
      obtain ⟨gp, r', c', rfl, hbx, hio, hgp, hbw⟩ := hcut
      have bw3 : Below w3.heap.size w3 wc := ((Below.refl _ _).al _).trans (hbw.mono (by omega))
      have hbr4 := (Box.new w3 24 (.slice (some ⟨g, 0, none⟩) ps.length ps.length)).below hbw (by omega)
      have hbs4 := HBR3.out.below bw3 (by omega)
      have hdw := HD3.out.below bw3
      have hsw := bw3.size
      have cr4 := hbr4.cell; have fr4 := hbr4.frozen; have lr4 := hbr4.lt; have cs4 := hbs4.cell; have fs4 := hbs4.frozen; have ls4 := hbs4.lt; have cg0 := hbx.cell0; have cg1 := hbx.cell1; have lg := hbx.lt
      have hgw := (hdw.1.lt g rfl)
      have hne4 : Off (.slice r' ws.length c') ws (some g) := fun _ e => by
        have := (hio.lt g e).1
        omega
      have hfz : ∀ o, wc.frozen? ⟨g, o, none⟩ = false := fun o => by
        obtain ⟨-, cs, ho, -⟩ := hdw.1
        rcases ho.2 with ⟨e, _⟩ | ⟨g', cap, cur, e, hB, hh, _⟩
        · simp at e
        · have : g' = g := by simp at e; exact e.1.symm
          subst this
          simp [World.frozen?, hh]
      have HBR4 := Lib.hid hbr4; have HBS4 := Lib.hid hbs4; have HDW := Lib.hid hdw; have HIO := Lib.hid hio; have HBX4 := Lib.hid hbx; have HNE4 := Lib.hid hne4; have HBW := Lib.hid (HB3.out.tr bw3); have HFZ := Lib.hid hfz
      clear hbr4 hbs4 hdw hio hbx hne4 hfz bw3 hbw p0 p1
      go_wp2_with fail
      refine (ins_end' w2.heap.size g wc.heap.size r ps HRN.out us x (.slice r' ws.length c') ws _ (HDW.out.1.below ((Below.refl _ _).al _)) (by omega) (by exact (Box2.new _ _ _ _).cell0) (by exact (Box2.new _ _ _ _).cell1) HX.out (HIO.out.at_.below ((Below.refl _ _).al _)) HNE4.out (by simp; omega)).mono ?_
      rintro e w5 ⟨v5, rfl, hrow5, hg5, hat5⟩
      obtain ⟨V5, L5, c5, hv5⟩ : ∃ V L c, v5 = .slice V L c := by obtain ⟨V, c, h⟩ := hrow5.shape; exact ⟨V, _, c, h⟩
      have hbr5 := (HBR4.out.alloc (.cells #[.int .i64 x, .slice r' ws.length c'] 31)).keep hg5 (by simp; omega)
      have hbs5 := (HBS4.out.alloc (.cells #[.int .i64 x, .slice r' ws.length c'] 31)).keep hg5 (by simp; omega)
      have hul := HDW.out.1.1
      have hB5 : Below w.heap.size w w5 := (HBW.out.al _).grown hg5 (by have := HBW.out.size; simp; omega) (fun k hk => by simp at hk; omega)
      have hoff : ∀ bl : Nat, bl < w2.heap.size ∨ bl = w3.heap.size → (v5.ownBlock = none ∨ v5.ownBlock ≠ some bl) ∧ ∀ (k : Nat) (y : Int) (zs : List Int) (u' : Value), (ps.take r ++ [(x, ws)] ++ ps.drop r)[k]? = some (y, zs) → (us.take r ++ [Value.slice r' ws.length c'] ++ us.drop r)[k]? = some u' → Off u' zs (some bl) := fun bl hbl => by
        refine ⟨.inr ?_, fun k y zs u' a1 a2 hn0 e0 => ?_⟩
        · rcases hat5 with h | h <;> rw [h] <;> simp <;> omega
        · rcases Nat.lt_trichotomy k r with hk | hk | hk
          · rw [List.append_assoc, List.getElem?_append_left (by simp; omega), List.getElem?_take, if_pos hk] at a1 a2
            have h1 := (HD3.out.2.1 k y zs u' a1 a2).1.lt _ e0
            omega
          · subst hk
            rw [List.append_assoc, List.getElem?_append_right (by simp; omega), show k - (us.take k).length = 0 by simp; omega] at a2
            simp at a2
            subst a2
            have := (HIO.out.lt _ e0).1
            omega
          · rw [List.getElem?_append_right (by simp; omega), List.getElem?_drop, show r + (k - (ps.take r ++ [(x, ws)]).length) = k - 1 by simp; omega] at a1
            rw [List.getElem?_append_right (by simp; omega), List.getElem?_drop, show r + (k - (us.take r ++ [Value.slice r' ws.length c']).length) = k - 1 by simp; omega] at a2
            have h1 := (HD3.out.2.1 (k - 1) y zs u' a1 a2).1.lt _ e0
            omega
      have hfin := (hrow5.keep (grownBy_setCell w5 ⟨w3.heap.size, 0, none⟩ v5) (hoff _ (.inr rfl)).1 (hoff _ (.inr rfl)).2)
      have hfin2 := (hfin.keep (grownBy_setCell _ ⟨w.heap.size + 2, 0, none⟩ v5) (hoff (w.heap.size + 2) (.inl (by omega))).1 (hoff (w.heap.size + 2) (.inl (by omega))).2).at_
      rw [add_new (p := (x, ws)) HG.out.goodL hr1 HR2'.out (.inl HRN.out)] at hfin2
      subst hv5
      have cr5 := hbr5.cell; have fr5 := hbr5.frozen; have lr5 := hbr5.lt; have cs5 := hbs5.cell; have fs5 := hbs5.frozen; have ls5 := hbs5.lt
      have HFIN := Lib.hid hfin2; have HBR5 := Lib.hid hbr5; have HBS5 := Lib.hid hbs5; have HB5 := Lib.hid hB5
      clear hfin hfin2 hbr5 hbs5 hB5 hoff hrow5 hg5 hat5 hul
      go_wp2_with fail
      have hcS := ((HBS5.out.far (p := ⟨w3.heap.size, 0, none⟩) (by simp; omega) (.slice V5 L5 c5)).set_ (.slice V5 L5 c5)).cell
      refine bodyPost_ret (v := .tuple #[.agg #[.slice V5 L5 c5], .int .i64 0]) ?_ rfl ?_
      · simp [results, Try.results26, go_sem, hcS]
      exact ⟨_, rfl, HFIN.out, (HB5.out.setCell (by simp; omega) _).setCell (show w.heap.size ≤ w.heap.size + 2 by omega) _⟩
end Go.Proofs.Ytgkenbjpmondeaa
