/- Proved: memory.Changed and debuggerref25.Changed return the bases of the pages in which two memories differ. -/
import Derived.Test.YtgkenbjpmondeaaChgL
import Derived.Test.YtgkenbjpmondeaaEqual
import Derived.Test.YtgkenbjpmondeaaWith
namespace Go.Proofs.Ytgkenbjpmondeaa
open Go.RowKit

def ChgPost (ps qs : List Pg) (w : World) (e : Ending) (w' : World) : Prop := ∃ v, e = .returned v ∧ IntsOwn w' w.heap.size v (chg ps qs) ∧ Below w.heap.size w w'

theorem stop_ {p : Prop} (h : Hid p) : p := h.out
set_option maxRecDepth 100000 in
set_option maxHeartbeats 400000 in
theorem changed_any (u v : Value) (ps qs : List Pg) (w : World) (hx : PagesAt w u ps) (hy : PagesAt w v qs) (hp : ps.length ≤ 1000000) (hq : qs.length ≤ 1000000) :
    Calls Try.prog 30 #[.agg #[u], .agg #[v]] w (ChgPost ps qs w) := by
  obtain ⟨A, ac, rfl, hac, ham, hA⟩ := hx
  obtain ⟨C, cc, rfl, hcc, hcm, hC⟩ := hy
  have HA := Lib.hid hA; have HC := Lib.hid hC; clear hA hC
  have ha := ham.1; have hc := hcm.1; clear ham hcm
  have HST := Lib.hid (with_start w (.slice A ps.length ac) (.slice C qs.length cc))
  go_enter Try.func30, Try.ntmps30
  go_wp2_with fail
  go_loopw [5, 6, 7] (fun o i j wr => ∃ (a b : Nat) (xs : List Int), i = .int .i64 (a : Int) ∧ j = .int .i64 (b : Int) ∧ a ≤ ps.length ∧ b ≤ qs.length ∧ IntsOwn wr (w.heap.size + 2) o xs ∧ xs.length ≤ a + b ∧ xs ++ chg (ps.drop a) (qs.drop b) = chg ps qs ∧
      Below (w.heap.size + 2) ((w.alloc (.cells #[.slice A ps.length ac] 24)).alloc (.cells #[.slice C qs.length cc] 24)) wr) (fun _ i j _ => ps.length - (intOf i).toNat + (qs.length - (intOf j).toNat))
  case atStart => exact ⟨0, 0, [], rfl, rfl, by omega, by omega, IntsOwn.nil _ _, by simp, by simp, Below.refl _ _⟩
  case round =>
    obtain ⟨a, b, xs, rfl, rfl, hal, hbl, hown, hxl, he, hb⟩ := hrel
    have hba := HST.out.1.below hb (by omega)
    have hbc := HST.out.2.below hb (by omega)
    have hsz := hb.size
    simp only [World.size_alloc] at hsz
    have hBB : Below w.heap.size w wr := (((Below.refl _ _).al _).al _).trans (hb.mono (by omega))
    have ca := hba.cell; have la := hba.lt; have cc' := hbc.cell; have lc := hbc.lt
    have HO := Lib.hid hown; have HE := Lib.hid he; have HB := Lib.hid hb; have HBB := Lib.hid hBB
    clear hown he hb hBB hba hbc
    have ha0 : (0 : Int) ≤ (a : Int) := Int.natCast_nonneg _
    have hb0 : (0 : Int) ≤ (b : Int) := Int.natCast_nonneg _
    by_cases hla : a < ps.length
    · obtain ⟨⟨x, ws⟩, hx⟩ := get_of_lt hla
      obtain ⟨g, off, pa, rfl, hi, c1, c2, hu⟩ := HA.out a x ws hx
      have d1 := cell_below HBB.out c1; have d2 := cell_below HBB.out c2
      have hgl := World.block_lt_of_cell? _ _ d1
      simp only at hgl
      have HX := Lib.hid hx; have HU := Lib.hid (hu.below HBB.out); have HI := Lib.hid hi
      clear hx c1 c2 hu hi
      have ha1 : (a : Int) < (ps.length : Int) := by omega
      have ta1 : ((a : Int) == (ps.length : Int)) = false := by simp; omega
      have ta2 : decide ((ps.length : Int) ≤ (a : Int)) = false := decide_eq_false (by omega)
      have ta3 : decide ((a : Int) < (ps.length : Int)) = true := decide_eq_true (by omega)
      by_cases hlb : b < qs.length
      · obtain ⟨⟨y, zs⟩, hy⟩ := get_of_lt hlb
        obtain ⟨g', off', qa, rfl, hi', c1, c2, hu⟩ := HC.out b y zs hy
        have e1 := cell_below HBB.out c1; have e2 := cell_below HBB.out c2
        have hgl' := World.block_lt_of_cell? _ _ e1
        simp only at hgl'
        have HY := Lib.hid hy; have HV := Lib.hid (hu.below HBB.out); have HJ := Lib.hid hi'
        clear hy c1 c2 hu hi'
        have hb1 : (b : Int) < (qs.length : Int) := by omega
        have tb1 : ((b : Int) == (qs.length : Int)) = false := by simp; omega
        have tb2 : decide ((qs.length : Int) ≤ (b : Int)) = false := decide_eq_false (by omega)
        by_cases hxy : x < y
        · have txy : decide (x < y) = true := decide_eq_true hxy
          have HXY := Lib.hid hxy; clear hxy
          go_wp2_with fail
          go_quiet (fail)
          go_wp2_with (at_builtin; refine stop_ ?_)
          refine Lib.hid ?_
          refine app_int _ rfl (.tmp 75) (.tmp 82) rfl (w.heap.size + 2) u5 xs rfl ((HO.out.below (below_drewN (Below.refl _ _) _)).below ((Below.refl _ _).al _)) wr.heap.size x rfl (by exact (Box.new (wr.drewN _) 3 _).cell) HI.out (by omega) (by simp; omega) ?_
          intro v2 w2 ho2 hg2 _
          have HO2 := Lib.hid ho2; have HG2 := Lib.hid hg2; clear ho2 hg2
          go_wp2_with fail
          go_roundw
          case rel => exact ⟨a + 1, b, xs ++ [x], by go_num, by go_num, by omega, by omega, HO2.out, by simp; omega, by rw [List.append_assoc, List.singleton_append, ← chg_lt HX.out HY.out HXY.out]; exact HE.out, ((HB.out.trans ((below_drewN (Below.refl _ _) _).mono (by omega))).alloc (by first | (show w.heap.size + 2 ≤ wr.heap.size; omega) | (show w.heap.size + 2 ≤ w2.heap.size; omega)) _).grown HG2.out (by simp; omega) (fun g hg => (HO.out.lt g hg).1)⟩
          case measure => simp [intOf]; omega
        · have txy : decide (x < y) = false := decide_eq_false hxy
          by_cases hyx : y < x
          · have tyx : decide (y < x) = true := decide_eq_true hyx
            have HXY := Lib.hid hxy; have HYX := Lib.hid hyx; clear hxy hyx
            go_wp2_with fail
            go_quiet (fail)
            go_wp2_with fail
            go_quiet (fail)
            go_wp2_with (at_builtin; refine stop_ ?_)
            refine Lib.hid ?_
            refine app_int _ rfl (.tmp 107) (.tmp 114) rfl (w.heap.size + 2) u5 xs rfl ((HO.out.below (below_drewN (Below.refl _ _) _)).below ((Below.refl _ _).al _)) wr.heap.size y rfl (by exact (Box.new (wr.drewN _) 3 _).cell) HJ.out (by omega) (by simp; omega) ?_
            intro v2 w2 ho2 hg2 _
            have HO2 := Lib.hid ho2; have HG2 := Lib.hid hg2; clear ho2 hg2
            go_wp2_with fail
            go_roundw
            case rel => exact ⟨a, b + 1, xs ++ [y], by go_num, by go_num, by omega, by omega, HO2.out, by simp; omega, by rw [List.append_assoc, List.singleton_append, ← chg_gt HX.out HY.out HYX.out]; exact HE.out, ((HB.out.trans ((below_drewN (Below.refl _ _) _).mono (by omega))).alloc (by first | (show w.heap.size + 2 ≤ wr.heap.size; omega) | (show w.heap.size + 2 ≤ w2.heap.size; omega)) _).grown HG2.out (by simp; omega) (fun g hg => (HO.out.lt g hg).1)⟩
            case measure => simp [intOf]; omega
          · have tyx : decide (y < x) = false := decide_eq_false hyx
            have hxe : y = x := by omega
            have HXE := Lib.hid hxe
            have HY' : Hid (qs[b]? = some (x, zs)) := by have := HY.out; rw [hxe] at this; exact Lib.hid this
            clear hxy hyx hxe
            go_wp2_with fail
            go_quiet (fail)
            go_wp2_with fail
            go_quiet (fail)
            go_wp2_with fail
            have b0 : Below wr.heap.size wr wr := Below.refl _ _
            obtain ⟨S, eS⟩ : ∃ S : World → Prop, S = fun w' => w'.cell? ⟨w.heap.size, 0, none⟩ = some (.slice (some ⟨g, off, none⟩) ps.length ac) ∧ w'.cell? ⟨w.heap.size + 1, 0, none⟩ = some (.slice (some ⟨g', off', none⟩) qs.length cc) ∧ w'.cell? ⟨g, off + a * 2 + 1, none⟩ = some (pa) ∧ w'.cell? ⟨g', off' + b * 2 + 1, none⟩ = some (qa) := ⟨_, rfl⟩
            have mkS : ∀ w' : World, w'.cell? ⟨w.heap.size, 0, none⟩ = some (.slice (some ⟨g, off, none⟩) ps.length ac) → w'.cell? ⟨w.heap.size + 1, 0, none⟩ = some (.slice (some ⟨g', off', none⟩) qs.length cc) → w'.cell? ⟨g, off + a * 2 + 1, none⟩ = some (pa) → w'.cell? ⟨g', off' + b * 2 + 1, none⟩ = some (qa) → S w' := fun w' g0 g1 g2 g3 => by rw [eS]; exact ⟨g0, g1, g2, g3⟩
            have sS := mkS _ ca (cc') d2 e2
            have ne_ : Nonempty (Lex.HW S) := ⟨⟨_, sS⟩⟩
            have exS : ∀ w' : World, S w' → w'.cell? ⟨w.heap.size, 0, none⟩ = some (.slice (some ⟨g, off, none⟩) ps.length ac) ∧ w'.cell? ⟨w.heap.size + 1, 0, none⟩ = some (.slice (some ⟨g', off', none⟩) qs.length cc) ∧ w'.cell? ⟨g, off + a * 2 + 1, none⟩ = some (pa) ∧ w'.cell? ⟨g', off' + b * 2 + 1, none⟩ = some (qa) := fun w' h => by rw [eS] at h; exact h
            have q0_ : ∀ p : Lex.HW S, p.w.cell? ⟨w.heap.size, 0, none⟩ = some (.slice (some ⟨g, off, none⟩) ps.length ac) := fun p => (exS _ p.ok).1
            have q1_ : ∀ p : Lex.HW S, p.w.cell? ⟨w.heap.size + 1, 0, none⟩ = some (.slice (some ⟨g', off', none⟩) qs.length cc) := fun p => (exS _ p.ok).2.1
            have q2_ : ∀ p : Lex.HW S, p.w.cell? ⟨g, off + a * 2 + 1, none⟩ = some (pa) := fun p => (exS _ p.ok).2.2.1
            have q3_ : ∀ p : Lex.HW S, p.w.cell? ⟨g', off' + b * 2 + 1, none⟩ = some (qa) := fun p => (exS _ p.ok).2.2.2
            clear eS exS
            have MKS := Lib.hid mkS; clear mkS sS
            refine Lex.wp_region_lex S 14 [([0, 1, 2, 3, 4, 5, 6, 7, 8, 9, 10, 11], some 12), ([13], none)] (by kernel_rfl) (by kernel_rfl) (fun _ _ d _ _ h => by cases d <;> exact h) (MKS.out _ ca (cc') d2 e2) ?_
            refine Lex.lexW_some (os := ?_) (o := ?_) (by simp only [List.filterMap_cons, List.filterMap_nil, List.getElem?_toArray, List.getElem?_cons_zero, List.getElem?_cons_succ]; rfl) (by simp only [List.getElem?_toArray, List.getElem?_cons_zero, List.getElem?_cons_succ]; rfl) ?_
            repeat (first | go_big_quiet_step (fail) | quiet_step (fail))
            refine wpQuiet_nil ?_
            intro K hK
            have HK := Lib.hid hK; clear hK
            go_wp2_with fail
            refine (sequal_any _ _ ws zs _ (HU.out.below (below_drewN (Below.refl _ _) _)) (HV.out.below (below_drewN (Below.refl _ _) _))).mono ?_
            rintro e w2 ⟨rfl, hb2⟩
            have hbb : Below wr.heap.size wr w2 := (below_drewN (Below.refl _ _) _).tr hb2
            have HB2 := Lib.hid hbb
            clear hbb hb2 b0
            cases hwz : (ws == zs) with
            | true =>
              go_wp2_with fail
              refine HK.out _ _ (fun _ => MKS.out _ (cell_below HB2.out ca) (cell_below HB2.out cc') (cell_below HB2.out d2) (cell_below HB2.out e2)) ?_
              clear HK K
              refine Lex.lexW_none (os := ?_) (by simp only [List.filterMap_cons, List.filterMap_nil, List.getElem?_toArray, List.getElem?_cons_zero, List.getElem?_cons_succ]; rfl) ?_
              repeat (first | go_big_quiet_step (fail) | quiet_step (fail))
              refine wpQuiet_nil (Lex.lexW_nil ?_)
              go_wp2_with fail
              go_roundw
              case rel => exact ⟨a + 1, b + 1, xs, by go_num, by go_num, by omega, by omega, HO.out.below HB2.out, by omega, by have h := chg_eq HX.out HY'.out; rw [if_pos hwz] at h; rw [← h]; exact HE.out, HB.out.trans (HB2.out.mono (by omega))⟩
              case measure => simp [intOf]; omega
            | false =>
              go_wp2_with fail
              refine HK.out _ _ (fun _ => MKS.out _ (cell_below HB2.out ca) (cell_below HB2.out cc') (cell_below HB2.out d2) (cell_below HB2.out e2)) ?_
              clear HK K
              have ca2 := cell_below HB2.out ca; have cc2 := cell_below HB2.out cc'; have d12 := cell_below HB2.out d1; have e12 := cell_below HB2.out e1
              have lw2 := HB2.out.size
              refine Lex.lexW_none (os := ?_) (by simp only [List.filterMap_cons, List.filterMap_nil, List.getElem?_toArray, List.getElem?_cons_zero, List.getElem?_cons_succ]; rfl) ?_
              repeat (first | go_big_quiet_step (fail) | quiet_step (fail))
              refine wpQuiet_nil (Lex.lexW_nil ?_)
              go_wp2_with (at_builtin; refine stop_ ?_)
              refine Lib.hid ?_
              refine app_int _ rfl (.tmp 34) (.tmp 41) rfl (w.heap.size + 2) u5 xs rfl ((HO.out.below HB2.out).below ((Below.refl _ _).al _)) w2.heap.size x rfl (by simp [go_sem]) HI.out (by omega) (by simp; omega) ?_
              intro v2 w3 ho2 hg2 _
              have HO2 := Lib.hid ho2; have HG2 := Lib.hid hg2; clear ho2 hg2
              go_wp2_with fail
              go_roundw
              case rel => exact ⟨a + 1, b + 1, xs ++ [x], by go_num, by go_num, by omega, by omega, HO2.out, by simp; omega, by have h := chg_eq HX.out HY'.out; rw [if_neg (by rw [hwz]; decide)] at h; rw [List.append_assoc, List.singleton_append, ← h]; exact HE.out, ((HB.out.trans (HB2.out.mono (by omega))).alloc (by first | (show w.heap.size + 2 ≤ wr.heap.size; omega) | (show w.heap.size + 2 ≤ w2.heap.size; omega)) _).grown HG2.out (by simp; omega) (fun g hg => (HO.out.lt g hg).1)⟩
              case measure => simp [intOf]; omega
      · have hb1 : (qs.length : Int) ≤ (b : Int) := by omega
        have tb1 : ((b : Int) == (qs.length : Int)) = true := by simp; omega
        have tb2 : decide ((qs.length : Int) ≤ (b : Int)) = true := decide_eq_true (by omega)
        go_wp2_with fail
        go_quiet (fail)
        go_wp2_with (at_builtin; refine stop_ ?_)
        refine Lib.hid ?_
        refine app_int _ rfl (.tmp 75) (.tmp 82) rfl (w.heap.size + 2) u5 xs rfl ((HO.out.below (below_drewN (Below.refl _ _) _)).below ((Below.refl _ _).al _)) wr.heap.size x rfl (by exact (Box.new (wr.drewN _) 3 _).cell) HI.out (by omega) (by simp; omega) ?_
        intro v2 w2 ho2 hg2 _
        have HO2 := Lib.hid ho2; have HG2 := Lib.hid hg2; clear ho2 hg2
        go_wp2_with fail
        go_roundw
        case rel => exact ⟨a + 1, b, xs ++ [x], by go_num, by go_num, by omega, by omega, HO2.out, by simp; omega, by rw [List.append_assoc, List.singleton_append, ← chg_left HX.out (by omega)]; exact HE.out, ((HB.out.trans ((below_drewN (Below.refl _ _) _).mono (by omega))).alloc (by first | (show w.heap.size + 2 ≤ wr.heap.size; omega) | (show w.heap.size + 2 ≤ w2.heap.size; omega)) _).grown HG2.out (by simp; omega) (fun g hg => (HO.out.lt g hg).1)⟩
        case measure => simp [intOf]; omega
    · have ha1 : (ps.length : Int) ≤ (a : Int) := by omega
      have ta1 : ((a : Int) == (ps.length : Int)) = true := by simp; omega
      have ta2 : decide ((ps.length : Int) ≤ (a : Int)) = true := decide_eq_true (by omega)
      have ta3 : decide ((a : Int) < (ps.length : Int)) = false := decide_eq_false (by omega)
      by_cases hlb : b < qs.length
      · obtain ⟨⟨y, zs⟩, hy⟩ := get_of_lt hlb
        obtain ⟨g', off', qa, rfl, hi', c1, c2, hu⟩ := HC.out b y zs hy
        have e1 := cell_below HBB.out c1
        have hgl' := World.block_lt_of_cell? _ _ e1
        simp only at hgl'
        have HY := Lib.hid hy; have HJ := Lib.hid hi'
        clear hy c1 c2 hu hi'
        have hb1 : (b : Int) < (qs.length : Int) := by omega
        have tb1 : ((b : Int) == (qs.length : Int)) = false := by simp; omega
        have tb2 : decide ((qs.length : Int) ≤ (b : Int)) = false := decide_eq_false (by omega)
        go_wp2_with fail
        go_quiet (fail)
        go_wp2_with fail
        go_quiet (fail)
        go_wp2_with (at_builtin; refine stop_ ?_)
        refine Lib.hid ?_
        refine app_int _ rfl (.tmp 107) (.tmp 114) rfl (w.heap.size + 2) u5 xs rfl ((HO.out.below (below_drewN (Below.refl _ _) _)).below ((Below.refl _ _).al _)) wr.heap.size y rfl (by exact (Box.new (wr.drewN _) 3 _).cell) HJ.out (by omega) (by simp; omega) ?_
        intro v2 w2 ho2 hg2 _
        have HO2 := Lib.hid ho2; have HG2 := Lib.hid hg2; clear ho2 hg2
        go_wp2_with fail
        go_roundw
        case rel => exact ⟨a, b + 1, xs ++ [y], by go_num, by go_num, by omega, by omega, HO2.out, by simp; omega, by rw [List.append_assoc, List.singleton_append, ← chg_right (by omega) HY.out]; exact HE.out, ((HB.out.trans ((below_drewN (Below.refl _ _) _).mono (by omega))).alloc (by first | (show w.heap.size + 2 ≤ wr.heap.size; omega) | (show w.heap.size + 2 ≤ w2.heap.size; omega)) _).grown HG2.out (by simp; omega) (fun g hg => (HO.out.lt g hg).1)⟩
        case measure => simp [intOf]; omega
      · go_wp2_with fail
        go_ret
        have h := HE.out
        rw [chg_end (by omega) (by omega), List.append_nil] at h
        exact ⟨_, rfl, by rw [← h]; exact HO.out.base (by omega), HBB.out⟩
end Go.Proofs.Ytgkenbjpmondeaa
