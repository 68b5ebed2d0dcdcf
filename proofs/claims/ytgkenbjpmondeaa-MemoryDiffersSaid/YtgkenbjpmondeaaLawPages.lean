/- Proved: debuggerlaw25.MemoryPages returns true for every input. -/
import Derived.Test.YtgkenbjpmondeaaAddM
import Derived.Test.YtgkenbjpmondeaaWithoutM
import Derived.Test.YtgkenbjpmondeaaChangedR
import Derived.Test.YtgkenbjpmondeaaLawReads
namespace Go.Proofs.Ytgkenbjpmondeaa
open Go.RowKit

/-- the pages and the error of an Add -/
def addR (ps : List Pg) (p : Pg) : List Pg × Int := if pageB p then (addF (fil p.1 ps) p, 0) else ([], 1)
def AddAll (ps : List Pg) (p : Pg) (w : World) (e : Ending) (w' : World) : Prop := ∃ v, e = .returned (.tuple #[.agg #[v], .int .i64 (addR ps p).2]) ∧ PagesAt w' v (addR ps p).1 ∧ Below w.heap.size w w'
theorem nil_at (w : World) : PagesAt w (.slice none 0 0) [] := ⟨none, 0, rfl, by simp, ⟨by omega, fun _ => rfl⟩, by simp⟩
theorem madd_all (v u : Value) (ps : List Pg) (x : Int) (ws : List Int) (w : World) (h : PagesAt w v ps) (hg : Good ps) (hl5 : ps.length < 50000) (hx : I64 x) (hu : IntsAt w u ws) :
    Calls Try.prog 26 #[.agg #[v], .agg #[.int .i64 x, u]] w (AddAll ps (x, ws) w) := by
  unfold AddAll addR
  cases hp : pageB (x, ws) with
  | true => exact (madd_any v u ps x ws w h hg hl5 hx hu hp).mono fun _ _ ⟨v', h1, h2, h3⟩ => ⟨v', h1, h2, h3⟩
  | false => exact (madd_bad v u ps x ws w h hx hu hp).mono fun _ _ ⟨h1, h3⟩ => ⟨_, h1, nil_at _, h3⟩
theorem radd_all (v u : Value) (ps : List Pg) (x : Int) (ws : List Int) (w : World) (h : PagesAt w v ps) (hg : Good ps) (hl5 : ps.length < 50000) (hx : I64 x) (hu : IntsAt w u ws) :
    Calls Try.prog 27 #[.agg #[v], .agg #[.int .i64 x, u]] w (AddAll ps (x, ws) w) := by
  unfold AddAll addR
  cases hp : pageB (x, ws) with
  | true => exact (add_any v u ps x ws w h (goodSmall hg) hl5 hx hu hp).mono fun _ _ ⟨v', us, out, h1, h2, h3, _, h5⟩ => ⟨v', h1, by rw [if_pos rfl, ← h2.eq]; exact h3.at_, h5⟩
  | false => exact (add_bad v u ps x ws w h hu hp).mono fun _ _ ⟨h1, h3⟩ => ⟨_, h1, nil_at _, h3⟩

def AddIs (L : List Pg) (c : Int) (w : World) (e : Ending) (w' : World) : Prop := ∃ V k, e = .returned (.tuple #[.agg #[.slice V L.length k], .int .i64 c]) ∧ PagesAt w' (.slice V L.length k) L ∧ Below w.heap.size w w'
theorem AddAll.is {ps : List Pg} {p : Pg} {L : List Pg} {c : Int} (hR : addR ps p = (L, c)) {w : World} {e : Ending} {w' : World} (h : AddAll ps p w e w') : AddIs L c w e w' := by
  obtain ⟨v, rfl, h2, h3⟩ := h
  rw [hR] at h2 ⊢
  obtain ⟨V, k, rfl, hh⟩ := id h2
  exact ⟨V, k, rfl, h2, h3⟩
theorem zat {w : World} {r : Nat} (h : w.heap[r]? = some (.cells zeros64.toArray 3 (0, 0))) : IntsAt w (.slice (some ⟨r, 0, none⟩) 64 64) (List.replicate 64 0) := by
  refine ⟨_, 64, by simp, by simp, ⟨by omega, by simp⟩, fun k x hx => ⟨r, 0, rfl, ?_⟩⟩
  have hk := (List.getElem?_eq_some_iff.1 hx).1
  rw [List.getElem?_replicate] at hx
  simp at hk
  rw [if_pos hk] at hx
  obtain rfl : 0 = x := by simpa using hx
  exact ⟨by unfold I64; omega, by rw [Nat.zero_add]; exact zcell h hk⟩

set_option maxRecDepth 100000 in
set_option maxHeartbeats 4000000 in
theorem memoryPages_any (v o u : Value) (l l2 ws : List Int) (x base : Int) (w : World) (h : IntsAt w v l) (h2 : IntsAt w o l2) (hx : I64 x) (hu : IntsAt w u ws) (hb : I64 base) :
    Calls Try.prog 8 #[v, o, .agg #[.int .i64 x, u], .int .i64 base] w (EqPost true w) := by
  have HI := Lib.hid h; have HI2 := Lib.hid h2; have HU := Lib.hid hu; have HX := Lib.hid hx; have HBS := Lib.hid hb
  obtain ⟨U, uc, rfl, -, -, -⟩ := hu
  clear h h2 hx hb
  have hbp := Box2.new w 31 (.int .i64 x) (.slice U ws.length uc)
  have HBP := Lib.hid hbp; clear hbp
  by_cases h200 : 200 < ws.length
  · go_enter Try.func8, Try.ntmps8
    go_wp2_with fail
    refine (awake_any _).mono ?_
    rintro e w2 ⟨rfl, hb2⟩
    have HB2 := Lib.hid hb2; clear hb2
    go_wp2_with fail
    go_ret
    exact ⟨rfl, ((Below.refl _ _).al _).tr HB2.out⟩
  · go_enter Try.func8, Try.ntmps8
    go_wp2_with fail
    refine (some_any _ l _ (HI.out.below ((Below.refl _ _).al _))).mono ?_
    rintro e w1 ⟨v1, us1, rfl, hrow1, -, hb1⟩
    obtain ⟨V, vc, rfl⟩ := hrow1.shape
    have HP1 := Lib.hid hrow1.at_; have HB1 := Lib.hid (((Below.refl w.heap.size w).al _).tr hb1); have HBP1 := Lib.hid (HBP.out.below hb1 (by simp))
    clear hrow1 hb1
    go_wp2_with fail
    refine (some_any _ l2 _ (HI2.out.below HB1.out)).mono ?_
    rintro e w2 ⟨v2, us2, rfl, hrow2, -, hb2⟩
    obtain ⟨O, oc, rfl⟩ := hrow2.shape
    have g1 := (take_good l 8 (Nat.le_refl _)).1.good
    have g2 := (take_good l2 8 (Nat.le_refl _)).1.good
    have l8 := (take_good l 8 (Nat.le_refl _)).2
    have l82 := (take_good l2 8 (Nat.le_refl _)).2
    have HP2 := Lib.hid hrow2.at_; have HPA := Lib.hid (HP1.out.below hb2)
    have HB2 := Lib.hid (HB1.out.tr hb2); have HBP2 := Lib.hid (HBP1.out.below hb2 HBP1.out.lt)
    clear hrow2 hb2
    obtain ⟨ps, hps⟩ : ∃ ps, ps = someL l := ⟨_, rfl⟩
    obtain ⟨qs, hqs⟩ : ∃ qs, qs = someL l2 := ⟨_, rfl⟩
    have HG1 : Hid (Good ps) := by rw [hps]; exact Lib.hid g1
    have HG2 : Hid (Good qs) := by rw [hqs]; exact Lib.hid g2
    have hl1 : ps.length ≤ 8 := by rw [hps]; exact l8
    have hl2 : qs.length ≤ 8 := by rw [hqs]; exact l82
    rw [← hps] at HPA ⊢
    rw [← hqs] at HP2 ⊢
    clear hps hqs g1 g2 l8 l82 HP1
    obtain ⟨s0, s1⟩ := with_start w2 (.slice V ps.length vc) (.slice O qs.length oc)
    have b3 : Below w2.heap.size w2 ((w2.alloc (.cells #[.slice V ps.length vc] 24)).alloc (.cells #[.slice O qs.length oc] 24)) := ((Below.refl _ _).al _).al _
    have HPA3 := Lib.hid (HPA.out.below b3); have HPO3 := Lib.hid (HP2.out.below b3); have HB3 := Lib.hid (HB2.out.tr b3); have HBP3 := Lib.hid (HBP2.out.below b3 HBP2.out.lt); have HM3 := Lib.hid s0; have HO3 := Lib.hid s1
    clear s0 s1 b3 HPA HP2
    go_wp2_with fail
    generalize (w2.alloc (.cells #[.slice V ps.length vc] 24)).alloc (.cells #[.slice O qs.length oc] 24) = w3 at HPA3 HPO3 HB3 HBP3 HM3 HO3 ⊢
    have hm1 : 0 ≤ base % 14 := by omega
    have hm2 : base % 14 < 14 := by omega
    have hw64 : IntKind.i64.wrap (base % 14 * 64) = base % 14 * 64 := IntWalk.i64_in _ (by omega)
    have cm := HM3.out.cell; have lm := HM3.out.lt
    go_cut [11] (fun s11 wx => ∃ (g r : Nat), s11 = .pointer (some ⟨g, 0, none⟩) ∧ Box2 wx g 31 (.int .i64 (base % 14 * 64)) (.slice (some ⟨r, 0, none⟩) 64 64) ∧ wx.heap[r]? = some (.cells zeros64.toArray 3 (0, 0)) ∧ Below w3.heap.size w3 wx)
    case first =>
      have hmk := mk64
      go_region_held3 (fun w' => w'.cell? ⟨w2.heap.size, 0, none⟩ = some (.slice V ps.length vc)) (go_keep)
        (first | (go_at_call 13; refine (mod_any base 14 _ HBS.out (by omega) (by omega)).mono ?_; rintro e w' ⟨rfl, rfl⟩))
      all_goals go_wp2_with fail
      all_goals go_meet
      all_goals first
        | exact ⟨w3.heap.size + 1, w3.heap.size, rfl, (two_new1 w3 zeros64.toArray (.int .i64 (base % 14 * 64)) (.slice (some ⟨w3.heap.size, 0, none⟩) 64 64)).1, (two_new1 w3 _ _ _).2.1, (two_new1 w3 _ _ _).2.2.drew⟩
        | exact ⟨w3.heap.size, w3.heap.size + 1, rfl, (two_new2 w3 zeros64.toArray (.int .i64 (base % 14 * 64)) (.slice (some ⟨w3.heap.size + 1, 0, none⟩) 64 64)).1, (two_new2 w3 _ _ _).2.1, (two_new2 w3 _ _ _).2.2.drew⟩
    case rest =>
      clear hw64 cm lm
      obtain ⟨g, r, rfl, hbq, hrr, hbw⟩ := hcut
      obtain ⟨qx, hqx⟩ : ∃ qx, qx = base % 14 * 64 := ⟨_, rfl⟩
      have hqi : I64 qx := by unfold I64; omega
      rw [← hqx] at hbq
      have hz := zat hrr
      obtain ⟨L1, c1, hR1⟩ : ∃ L c, addR ps (x, ws) = (L, c) := ⟨_, _, rfl⟩
      obtain ⟨L2, c2, hR2⟩ : ∃ L c, addR ps (qx, List.replicate 64 0) = (L, c) := ⟨_, _, rfl⟩
      have hsz := hbw.size
      have cm := (HM3.out.below hbw HM3.out.lt).cell
      have co := (HO3.out.below hbw HO3.out.lt).cell
      have cp := (HBP3.out.below hbw HBP3.out.lt).cell0
      have cr := (HBP3.out.below hbw HBP3.out.lt).cell1
      have cq := hbq.cell0
      have cz := hbq.cell1
      have lg := hbq.lt
      have lm : w2.heap.size + 1 < wc.heap.size := by have := HO3.out.lt; omega
      have lp : w.heap.size < wc.heap.size := by have := HBP3.out.lt; omega
      have HPA := Lib.hid (HPA3.out.below hbw); have HPO := Lib.hid (HPO3.out.below hbw); have HBC := Lib.hid (HB3.out.tr hbw); have HQI := Lib.hid hqi; have HZ := Lib.hid hz; have HR1 := Lib.hid hR1; have HR2 := Lib.hid hR2
      have HUC := Lib.hid (HU.out.below HBC.out)
      have COC := Lib.hid co
      clear hbq hrr hbw hqx hqi hz hR1 hR2 hsz co hm1 hm2
      go_wp2_with fail
      refine (madd_all _ _ ps x ws _ HPA.out HG1.out (by omega) HX.out HUC.out).mono fun _ w4 h => ?_
      obtain ⟨V4, k4, rfl, hp4, hb4⟩ := h.is HR1.out
      have BB4 := Lib.hid hb4; have HP4 := Lib.hid hp4
      clear h hb4 hp4
      have cm4 := cell_below BB4.out cm; have cp4 := cell_below BB4.out cp; have cr4 := cell_below BB4.out cr; have cq4 := cell_below BB4.out cq; have cz4 := cell_below BB4.out cz
      have lm4 : w2.heap.size < w4.heap.size := by have := BB4.out.size; omega
      have lp4 : w.heap.size < w4.heap.size := by have := BB4.out.size; omega
      have lg4 : g < w4.heap.size := by have := BB4.out.size; omega
      go_wp2_with fail
      refine (radd_all _ _ ps x ws _ (HPA.out.below (BB4.out.al _)) HG1.out (by omega) HX.out (HUC.out.below (BB4.out.al _))).mono fun _ w5 h => ?_
      obtain ⟨V5, k5, rfl, hp5, hb5⟩ := h.is HR1.out
      have ba5 := (Box.new w4 24 (.slice V4 L1.length k4)).below hb5 (by simp)
      have b45 : Below w4.heap.size w4 w5 := ((Below.refl _ _).al _).tr hb5
      have BB5 := Lib.hid (BB4.out.tr b45); have HP5 := Lib.hid hp5; have HP45 := Lib.hid (HP4.out.below b45); have BA5 := Lib.hid ba5
      clear h hb5 hp5 ba5 b45
      clear cm4 cp4 cr4 cq4 cz4 lm4 lp4 lg4
      have cm5 := cell_below BB5.out cm; have cp5 := cell_below BB5.out cp; have cr5 := cell_below BB5.out cr; have cq5 := cell_below BB5.out cq; have cz5 := cell_below BB5.out cz
      have lm5 : w2.heap.size < w5.heap.size := by have := BB5.out.size; omega
      have lp5 : w.heap.size < w5.heap.size := by have := BB5.out.size; omega
      have lg5 : g < w5.heap.size := by have := BB5.out.size; omega
      go_wp2_with fail
      refine (madd_all _ _ ps qx (List.replicate 64 0) _ (HPA.out.below (BB5.out.al _)) HG1.out (by omega) HQI.out (HZ.out.below (BB5.out.al _))).mono fun _ w6 h => ?_
      obtain ⟨V6, k6, rfl, hp6, hb6⟩ := h.is HR2.out
      have bb6 := (Box.new w5 24 (.slice V5 L1.length k5)).below hb6 (by simp)
      have b56 : Below w5.heap.size w5 w6 := ((Below.refl _ _).al _).tr hb6
      have BB6 := Lib.hid (BB5.out.tr b56); have HP6 := Lib.hid hp6; have HP46 := Lib.hid (HP45.out.below b56); have HP56 := Lib.hid (HP5.out.below b56); have BA6 := Lib.hid (BA5.out.below b56 BA5.out.lt); have BB_6 := Lib.hid bb6
      clear h hb6 hp6 bb6 b56
      clear cm5 cp5 cr5 cq5 cz5 lm5 lp5 lg5
      have cm6 := cell_below BB6.out cm; have cp6 := cell_below BB6.out cp; have cr6 := cell_below BB6.out cr; have cq6 := cell_below BB6.out cq; have cz6 := cell_below BB6.out cz
      have lm6 : w2.heap.size < w6.heap.size := by have := BB6.out.size; omega
      have lp6 : w.heap.size < w6.heap.size := by have := BB6.out.size; omega
      have lg6 : g < w6.heap.size := by have := BB6.out.size; omega
      go_wp2_with fail
      refine (radd_all _ _ ps qx (List.replicate 64 0) _ (HPA.out.below (BB6.out.al _)) HG1.out (by omega) HQI.out (HZ.out.below (BB6.out.al _))).mono fun _ w7 h => ?_
      obtain ⟨V7, k7, rfl, hp7, hb7⟩ := h.is HR2.out
      have bc7 := (Box.new w6 24 (.slice V6 L2.length k6)).below hb7 (by simp)
      have b67 : Below w6.heap.size w6 w7 := ((Below.refl _ _).al _).tr hb7
      have BB7 := Lib.hid (BB6.out.tr b67); have HP7 := Lib.hid hp7; have HP47 := Lib.hid (HP46.out.below b67); have HP57 := Lib.hid (HP56.out.below b67); have HP67 := Lib.hid (HP6.out.below b67); have BA7 := Lib.hid (BA6.out.below b67 BA6.out.lt); have BB_7 := Lib.hid (BB_6.out.below b67 BB_6.out.lt); have BC7 := Lib.hid bc7
      clear h hb7 hp7 bc7 b67
      clear cm6 cp6 cr6 cq6 cz6 lm6 lp6 lg6
      have ca7 := BA7.out.cell; have la7 := BA7.out.lt; have cb7 := BB_7.out.cell; have lb7 := BB_7.out.lt; have cc7 := BC7.out.cell; have lc7 := BC7.out.lt
      have e1 : (c1 != c1) = false := by simp
      have e2 : (c2 != c2) = false := by simp
      go_wp2_with fail
      refine (same_any _ _ L1 L1 _ (HP47.out.below ((Below.refl _ _).al _)) (HP57.out.below ((Below.refl _ _).al _))).mono ?_
      rintro e w8 ⟨rfl, hb8⟩
      rw [show (L1 == L1) = true by simp]
      have bd8 := (Box.new w7 24 (.slice V7 L2.length k7)).below hb8 (by simp)
      have b78 : Below w7.heap.size w7 w8 := ((Below.refl _ _).al _).tr hb8
      have BB8 := Lib.hid (BB7.out.tr b78); have HP68 := Lib.hid (HP67.out.below b78); have HP78 := Lib.hid (HP7.out.below b78); have bc8 := BC7.out.below b78 BC7.out.lt
      have cc8 := bc8.cell; have cd8 := bd8.cell
      clear hb8 bd8 b78 bc8 ca7 la7 cb7 lb7 cc7 lc7
      go_wp2_with fail
      refine (same_any _ _ L2 L2 _ HP68.out HP78.out).mono ?_
      rintro e w9 ⟨rfl, hb9⟩
      rw [show (L2 == L2) = true by simp]
      have BB9 := Lib.hid (BB8.out.tr hb9)
      clear hb9 cc8 cd8
      have cm9 := cell_below BB9.out cm; have co9 := cell_below BB9.out COC.out; have cq9 := cell_below BB9.out cq
      go_wp2_with fail
      have HF1 := Lib.hid (fil_len base ps); have HF2 := Lib.hid (fil_len qx ps)
      obtain ⟨S, eS⟩ : ∃ S : World → Prop, S = fun w' => w'.cell? ⟨w2.heap.size, 0, none⟩ = some (.slice V ps.length vc) ∧ w'.cell? ⟨w2.heap.size + 1, 0, none⟩ = some (.slice O qs.length oc) ∧ w'.cell? ⟨g, 0, none⟩ = some (.int .i64 qx) := ⟨_, rfl⟩
      have mkS : ∀ w' : World, w'.cell? ⟨w2.heap.size, 0, none⟩ = some (.slice V ps.length vc) → w'.cell? ⟨w2.heap.size + 1, 0, none⟩ = some (.slice O qs.length oc) → w'.cell? ⟨g, 0, none⟩ = some (.int .i64 qx) → S w' := fun w' g0 g1 g2 => by rw [eS]; exact ⟨g0, g1, g2⟩
      have sS := mkS _ cm9 co9 cq9
      have ne_ : Nonempty (Lex.HW S) := ⟨⟨_, sS⟩⟩
      have exS : ∀ w' : World, S w' → w'.cell? ⟨w2.heap.size, 0, none⟩ = some (.slice V ps.length vc) ∧ w'.cell? ⟨w2.heap.size + 1, 0, none⟩ = some (.slice O qs.length oc) ∧ w'.cell? ⟨g, 0, none⟩ = some (.int .i64 qx) := fun w' h => by rw [eS] at h; exact h
      have q0_ : ∀ p : Lex.HW S, p.w.cell? ⟨w2.heap.size, 0, none⟩ = some (.slice V ps.length vc) := fun p => (exS _ p.ok).1
      have q1_ : ∀ p : Lex.HW S, p.w.cell? ⟨w2.heap.size + 1, 0, none⟩ = some (.slice O qs.length oc) := fun p => (exS _ p.ok).2.1
      have q2_ : ∀ p : Lex.HW S, p.w.cell? ⟨g, 0, none⟩ = some (.int .i64 qx) := fun p => (exS _ p.ok).2.2
      clear eS exS
      have MKS := Lib.hid mkS; clear mkS sS
      refine Lex.wp_region_lex S 31 [([0, 1, 3, 4], some 2), ([], some 5), ([], some 6), ([7, 8, 9, 10, 12, 13, 14], some 11), ([], some 15), ([], some 16), ([17, 18, 19, 20, 22, 23], some 21), ([], some 24), ([], some 25), ([26, 27], some 28), ([29, 30], none)] (by kernel_rfl) (by kernel_rfl) (fun _ _ d _ _ h => by cases d <;> exact h) (MKS.out _ cm9 co9 cq9) ?_
      refine Lex.lexW_some (os := ?_) (o := ?_) (by simp only [List.filterMap_cons, List.filterMap_nil, List.getElem?_toArray, List.getElem?_cons_zero, List.getElem?_cons_succ]; rfl) (by simp only [List.getElem?_toArray, List.getElem?_cons_zero, List.getElem?_cons_succ]; rfl) ?_
      repeat (first | go_big_quiet_step (fail) | quiet_step (fail))
      refine wpQuiet_nil ?_
      intro K hK
      have HK := Lib.hid hK; clear hK
      go_wp2_with fail
      refine (mwithout_any _ ps base _ (HPA.out.below BB9.out.drew) (goodSmall HG1.out)).mono ?_
      rintro e w10 ⟨v10, us10, rfl, hd10, hb10⟩
      have B10 := Lib.hid (((Below.refl _ _).drew).tr hb10); have D10 := Lib.hid hd10.1.at_
      clear hd10 hb10
      go_wp2_with fail
      refine HK.out _ _ (fun _ => MKS.out _ (cell_below B10.out cm9) (cell_below B10.out co9) (cell_below B10.out cq9)) ?_
      clear HK K
      refine Lex.lexW_some (os := ?_) (o := ?_) (by simp only [List.filterMap_nil]; rfl) (by simp only [List.getElem?_toArray, List.getElem?_cons_zero, List.getElem?_cons_succ]; rfl) ?_
      repeat (first | go_big_quiet_step (fail) | quiet_step (fail))
      refine wpQuiet_nil ?_
      intro K hK
      have HK := Lib.hid hK; clear hK
      go_wp2_with fail
      refine (without_any _ ps base _ (HPA.out.below (BB9.out.tr B10.out)) (goodSmall HG1.out)).mono ?_
      rintro e w11 ⟨v11, us11, rfl, hr11, hb11, -⟩
      have B11 := Lib.hid (B10.out.tr hb11); have D11 := Lib.hid hr11.at_; have D10' := Lib.hid (D10.out.below hb11)
      clear hr11 hb11
      go_wp2_with fail
      refine HK.out _ _ (fun _ => MKS.out _ (cell_below B11.out cm9) (cell_below B11.out co9) (cell_below B11.out cq9)) ?_
      clear HK K
      refine Lex.lexW_some (os := ?_) (o := ?_) (by simp only [List.filterMap_nil]; rfl) (by simp only [List.getElem?_toArray, List.getElem?_cons_zero, List.getElem?_cons_succ]; rfl) ?_
      repeat (first | go_big_quiet_step (fail) | quiet_step (fail))
      refine wpQuiet_nil ?_
      intro K hK
      have HK := Lib.hid hK; clear hK
      go_wp2_with fail
      refine (same_any _ _ (fil base ps) (fil base ps) _ D10'.out D11.out).mono ?_
      rintro e w12 ⟨rfl, hb12⟩
      rw [show (fil base ps == fil base ps) = true by simp]
      have B12 := Lib.hid (B11.out.tr hb12)
      clear hb12
      go_wp2_with fail
      refine HK.out _ _ (fun _ => MKS.out _ (cell_below B12.out cm9) (cell_below B12.out co9) (cell_below B12.out cq9)) ?_
      clear HK K
      refine Lex.lexW_some (os := ?_) (o := ?_) (by simp only [List.filterMap_cons, List.filterMap_nil, List.getElem?_toArray, List.getElem?_cons_zero, List.getElem?_cons_succ]; rfl) (by simp only [List.getElem?_toArray, List.getElem?_cons_zero, List.getElem?_cons_succ]; rfl) ?_
      repeat (first | go_big_quiet_step (fail) | quiet_step (fail))
      refine wpQuiet_nil ?_
      intro K hK
      have HK := Lib.hid hK; clear hK
      go_wp2_with fail
      refine (mwithout_any _ ps qx _ (HPA.out.below (BB9.out.tr B12.out)) (goodSmall HG1.out)).mono ?_
      rintro e w13 ⟨v13, us13, rfl, hd13, hb13⟩
      have B13 := Lib.hid (B12.out.tr hb13); have D13 := Lib.hid hd13.1.at_
      clear hd13 hb13
      go_wp2_with fail
      refine HK.out _ _ (fun _ => MKS.out _ (cell_below B13.out cm9) (cell_below B13.out co9) (cell_below B13.out cq9)) ?_
      clear HK K
      refine Lex.lexW_some (os := ?_) (o := ?_) (by simp only [List.filterMap_nil]; rfl) (by simp only [List.getElem?_toArray, List.getElem?_cons_zero, List.getElem?_cons_succ]; rfl) ?_
      repeat (first | go_big_quiet_step (fail) | quiet_step (fail))
      refine wpQuiet_nil ?_
      intro K hK
      have HK := Lib.hid hK; clear hK
      go_wp2_with fail
      refine (without_any _ ps qx _ (HPA.out.below (BB9.out.tr B13.out)) (goodSmall HG1.out)).mono ?_
      rintro e w14 ⟨v14, us14, rfl, hr14, hb14, -⟩
      have B14 := Lib.hid (B13.out.tr hb14); have D14 := Lib.hid hr14.at_; have D13' := Lib.hid (D13.out.below hb14)
      clear hr14 hb14
      go_wp2_with fail
      refine HK.out _ _ (fun _ => MKS.out _ (cell_below B14.out cm9) (cell_below B14.out co9) (cell_below B14.out cq9)) ?_
      clear HK K
      refine Lex.lexW_some (os := ?_) (o := ?_) (by simp only [List.filterMap_nil]; rfl) (by simp only [List.getElem?_toArray, List.getElem?_cons_zero, List.getElem?_cons_succ]; rfl) ?_
      repeat (first | go_big_quiet_step (fail) | quiet_step (fail))
      refine wpQuiet_nil ?_
      intro K hK
      have HK := Lib.hid hK; clear hK
      go_wp2_with fail
      refine (same_any _ _ (fil qx ps) (fil qx ps) _ D13'.out D14.out).mono ?_
      rintro e w15 ⟨rfl, hb15⟩
      rw [show (fil qx ps == fil qx ps) = true by simp]
      have B15 := Lib.hid (B14.out.tr hb15)
      clear hb15
      go_wp2_with fail
      refine HK.out _ _ (fun _ => MKS.out _ (cell_below B15.out cm9) (cell_below B15.out co9) (cell_below B15.out cq9)) ?_
      clear HK K
      refine Lex.lexW_some (os := ?_) (o := ?_) (by simp only [List.filterMap_cons, List.filterMap_nil, List.getElem?_toArray, List.getElem?_cons_zero, List.getElem?_cons_succ]; rfl) (by simp only [List.getElem?_toArray, List.getElem?_cons_zero, List.getElem?_cons_succ]; rfl) ?_
      repeat (first | go_big_quiet_step (fail) | quiet_step (fail))
      refine wpQuiet_nil ?_
      intro K hK
      have HK := Lib.hid hK; clear hK
      go_wp2_with fail
      refine (changed_any _ _ ps qs _ (HPA.out.below (BB9.out.tr B15.out)) (HPO.out.below (BB9.out.tr B15.out)) (by omega) (by omega)).mono ?_
      rintro e w16 ⟨v16, rfl, hi16, hb16⟩
      have B16 := Lib.hid (B15.out.tr hb16); have I16 := Lib.hid hi16.at_
      clear hi16 hb16
      go_wp2_with fail
      refine HK.out _ _ (fun _ => MKS.out _ (cell_below B16.out cm9) (cell_below B16.out co9) (cell_below B16.out cq9)) ?_
      clear HK K
      refine Lex.lexW_some (os := ?_) (o := ?_) (by simp only [List.filterMap_nil]; rfl) (by simp only [List.getElem?_toArray, List.getElem?_cons_zero, List.getElem?_cons_succ]; rfl) ?_
      repeat (first | go_big_quiet_step (fail) | quiet_step (fail))
      refine wpQuiet_nil ?_
      intro K hK
      have HK := Lib.hid hK; clear hK
      go_wp2_with fail
      refine (rchanged_any _ _ ps qs _ (HPA.out.below (BB9.out.tr B16.out)) (HPO.out.below (BB9.out.tr B16.out)) (by omega) (by omega)).mono ?_
      rintro e w17 ⟨v17, rfl, hi17, hb17⟩
      have B17 := Lib.hid (B16.out.tr hb17); have I17 := Lib.hid hi17.at_; have I16' := Lib.hid (I16.out.below hb17)
      clear hi17 hb17
      go_wp2_with fail
      refine HK.out _ _ (fun _ => MKS.out _ (cell_below B17.out cm9) (cell_below B17.out co9) (cell_below B17.out cq9)) ?_
      clear HK K
      refine Lex.lexW_some (os := ?_) (o := ?_) (by simp only [List.filterMap_nil]; rfl) (by simp only [List.getElem?_toArray, List.getElem?_cons_zero, List.getElem?_cons_succ]; rfl) ?_
      repeat (first | go_big_quiet_step (fail) | quiet_step (fail))
      refine wpQuiet_nil ?_
      intro K hK
      have HK := Lib.hid hK; clear hK
      go_wp2_with fail
      refine (ints_any _ _ (chg ps qs) (chg ps qs) _ I16'.out I17.out).mono ?_
      rintro e w18 ⟨rfl, hb18⟩
      rw [show (chg ps qs == chg ps qs) = true by simp]
      have B18 := Lib.hid (B17.out.tr hb18)
      clear hb18
      go_wp2_with fail
      refine HK.out _ _ (fun _ => MKS.out _ (cell_below B18.out cm9) (cell_below B18.out co9) (cell_below B18.out cq9)) ?_
      clear HK K
      refine Lex.lexW_some (os := ?_) (o := ?_) (by simp only [List.filterMap_cons, List.filterMap_nil, List.getElem?_toArray, List.getElem?_cons_zero, List.getElem?_cons_succ]; rfl) (by simp only [List.getElem?_toArray, List.getElem?_cons_zero, List.getElem?_cons_succ]; rfl) ?_
      repeat (first | go_big_quiet_step (fail) | quiet_step (fail))
      refine wpQuiet_nil ?_
      intro K hK
      have HK := Lib.hid hK; clear hK
      go_wp2_with fail
      refine (awake_any _).mono ?_
      rintro e w19 ⟨rfl, hb19⟩
      have B19 := Lib.hid (B18.out.tr hb19)
      clear hb19
      go_wp2_with fail
      refine HK.out _ _ (fun _ => MKS.out _ (cell_below B19.out cm9) (cell_below B19.out co9) (cell_below B19.out cq9)) ?_
      clear HK K
      refine Lex.lexW_none (os := ?_) (by simp only [List.filterMap_cons, List.filterMap_nil, List.getElem?_toArray, List.getElem?_cons_zero, List.getElem?_cons_succ]; rfl) ?_
      repeat (first | go_big_quiet_step (fail) | quiet_step (fail))
      refine wpQuiet_nil (Lex.lexW_nil ?_)
      go_wp2_with fail
      go_ret
      exact ⟨rfl, (HBC.out.tr BB9.out).tr B19.out⟩
end Go.Proofs.Ytgkenbjpmondeaa
