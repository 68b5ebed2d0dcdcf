/- Proved: debuggerref25.Without returns the pages but for those with the base that is left out; debuggerref25.page tells whether a page is right; debuggerkit.Mod is the remainder from 0 on. -/
import Derived.Test.YtgkenbjpmondeaaCopy
import Derived.Test.YtgkenbjpmondeaaRight
namespace Go.Proofs.Ytgkenbjpmondeaa
open Go.RowKit

theorem tmod_neg (n k : Int) (hn : n < 0) (hk : 0 < k) : (n.tmod k = 0 ∧ n % k = 0) ∨ (n.tmod k < 0 ∧ -k < n.tmod k ∧ n.tmod k + k = n % k) := by
  have e : n.tmod k = -((-n) % k) := by
    rw [← Int.tmod_eq_emod_of_nonneg (by omega), Int.neg_tmod, Int.neg_neg]
  have hr0 : 0 ≤ (-n) % k := Int.emod_nonneg _ (by omega)
  have hr1 : (-n) % k < k := Int.emod_lt_of_pos _ hk
  have hd := Int.mul_ediv_add_emod (-n) k
  by_cases h0 : (-n) % k = 0
  · refine .inl ⟨by rw [e, h0]; rfl, ?_⟩
    have : n = k * (-((-n) / k)) := by rw [Int.mul_neg]; omega
    rw [this]; exact Int.mul_emod_right _ _
  · refine .inr ⟨by omega, by omega, ?_⟩
    have h2 : n = (k - (-n) % k) + k * (-((-n) / k) - 1) := by rw [Int.mul_sub, Int.mul_neg]; omega
    have h3 : n % k = (k - (-n) % k) % k := by
      conv => lhs; rw [h2]
      exact Int.add_mul_emod_self_left _ _ _
    rw [h3, Int.emod_eq_of_lt (by omega) (by omega), e]; omega

set_option maxHeartbeats 1000000 in
theorem mod_any (n k : Int) (w : World) (hn : I64 n) (hk0 : 0 < k) (hk1 : k ≤ 1000000) :
    Calls Try.prog 13 #[.int .i64 n, .int .i64 k] w fun e w' => e = .returned (.int .i64 (n % k)) ∧ w = w' := by
  unfold I64 at hn
  have h1 : 0 ≤ n % k := Int.emod_nonneg _ (by omega)
  have h2 : n % k < k := Int.emod_lt_of_pos _ hk0
  by_cases h0 : 0 ≤ n
  · have hkz : (k == 0) = false := by simp; omega
    go_enter Try.func13, Try.ntmps13
    go_wp2_with fail
    go_ret
    exact ⟨rfl, rfl⟩
  · have hkz : (k == 0) = false := by simp; omega
    obtain ⟨t, ht⟩ : ∃ t, t = n.tmod k := ⟨_, rfl⟩
    have htm := tmod_neg n k (by omega) hk0
    rw [← ht] at htm
    have HT := Lib.hid ht
    rcases htm with ⟨e1, e2⟩ | ⟨e1, e2, e3⟩
    · have ht0 : (n.tmod k) = 0 := by rw [← ht, e1]
      have H2 := Lib.hid e2; clear e1 e2 ht
      go_enter Try.func13, Try.ntmps13
      go_wp2_with fail
      go_ret
      exact ⟨ret_int H2.out.symm, rfl⟩
    · have ht1 : n.tmod k < 0 := by rw [← ht]; exact e1
      have ht2 : -1000000 ≤ n.tmod k := by rw [← ht]; omega
      have H3 := Lib.hid e3; clear e2 e3 ht e1
      go_enter Try.func13, Try.ntmps13
      go_wp2_with fail
      go_ret
      exact ⟨ret_int (by rw [← HT.out]; exact H3.out), rfl⟩

set_option maxHeartbeats 1000000 in
theorem page_any (x : Int) (u : Value) (ws : List Int) (w : World) (hu : IntsAt w u ws) : Calls Try.prog 32 #[.agg #[.int .i64 x, u]] w fun e w' => e = .returned (.bool (pageB (x, ws))) ∧ Below w.heap.size w w' := by
  obtain ⟨A, cap, rfl, _, _, _⟩ := hu
  by_cases h1 : 0 ≤ x
  · by_cases h2 : x ≤ 1099511627776
    · by_cases h3 : x % 64 = 0
      · have h3' : (x % 64 == 0) = true := by simp [h3]
        have H3 := Lib.hid h3; clear h3
        by_cases h4 : ws.length = 64
        · have h4' : ((ws.length : Int) == 64) = true := by simp [h4]
          go_enter Try.func32, Try.ntmps32
          go_wp2_with fail
          go_ret
          exact ⟨ret_bool (by have := H3.out; simp [pageB, *]), (Below.refl _ _).al _⟩
        · have h4' : ((ws.length : Int) == 64) = false := by simp; omega
          go_enter Try.func32, Try.ntmps32
          go_wp2_with fail
          go_ret
          exact ⟨ret_bool (by have := H3.out; simp [pageB, *]), (Below.refl _ _).al _⟩
      · have h3' : (x % 64 == 0) = false := by simp [h3]
        go_enter Try.func32, Try.ntmps32
        go_wp2_with fail
        go_ret
        exact ⟨ret_bool (by simp [pageB, *] <;> omega), (Below.refl _ _).al _⟩
    · go_enter Try.func32, Try.ntmps32
      go_wp2_with fail
      go_ret
      exact ⟨ret_bool (by simp [pageB, *] <;> omega), (Below.refl _ _).al _⟩
  · go_enter Try.func32, Try.ntmps32
    go_wp2_with fail
    go_ret
    exact ⟨ret_bool (by simp [pageB, *] <;> omega), (Below.refl _ _).al _⟩

theorem Box.drew {w : World} {g : Nat} {t : TypeId} {v : Value} (h : Box w g t v) : Box w.drew g t v := h
theorem PagesRow.get {w : World} {B : Nat} {v : Value} {ps : List Pg} {us : List Value} (h : PagesRow w B v ps us) {k : Nat} {x : Int} {ws : List Int} (hk : ps[k]? = some (x, ws)) :
    ∃ g cap u, v = .slice (some ⟨g, 0, none⟩) ps.length cap ∧ us[k]? = some u ∧ I64 x ∧ w.cell? ⟨g, k * 2, none⟩ = some (.int .i64 x) ∧ w.cell? ⟨g, k * 2 + 1, none⟩ = some u ∧ IntsAt w u ws ∧ B ≤ g := by
  obtain ⟨_, cs, ho, hc⟩ := h
  have hkl := (List.getElem?_eq_some_iff.1 hk).1
  rcases ho.2 with ⟨rfl, h0⟩ | ⟨g, cap, cur, rfl, hb, hg, hn, hcap, hs, ht⟩
  · omega
  · obtain ⟨hi, h1, u, hu, h2, h3, _⟩ := hc k x ws hk
    exact ⟨g, cap, u, rfl, hu, hi, by rw [World.ownsRow.cellAt ho _ (by omega)]; exact h1, by rw [World.ownsRow.cellAt ho _ (by omega)]; exact h2, h3, hb⟩
def fil (base : Int) (ps : List Pg) : List Pg := ps.filter fun p => p.1 != base
theorem fil_snoc_in {base : Int} {ps : List Pg} {k : Nat} {x : Int} {ws : List Int} (h : ps[k]? = some (x, ws)) (hx : (x != base) = true) : fil base (ps.take (k + 1)) = fil base (ps.take k) ++ [(x, ws)] := by
  unfold fil
  rw [← take_snoc h, List.filter_append]
  simp [List.filter_cons, hx]
theorem fil_snoc_out {base : Int} {ps : List Pg} {k : Nat} {x : Int} {ws : List Int} (h : ps[k]? = some (x, ws)) (hx : (x != base) = false) : fil base (ps.take (k + 1)) = fil base (ps.take k) := by
  unfold fil
  rw [← take_snoc h, List.filter_append]
  simp [List.filter_cons, hx]
theorem fil_len (base : Int) (ps : List Pg) : (fil base ps).length ≤ ps.length := List.length_filter_le _ _

theorem off_old {w0 w : World} {B : Nat} {v u : Value} {ps : List Pg} {us : List Value} {xs : List Int} (hu : IntsAt w0 u xs) (hn : xs ≠ []) (h : PagesRow w B v ps us) (hB : w0.heap.size ≤ B) : u.ownBlock ≠ v.ownBlock := fun e => by
  obtain ⟨b, hb, hlt⟩ := hu.lt hn
  have := (h.lt b (e.symm.trans hb)).1
  omega
theorem snoc_all {ps : List Pg} {us : List Value} {x : Int} {ws : List Int} {u : Value} {N : Nat} (hl : us.length = ps.length)
    (h : ∀ (j : Nat) (x : Int) (ws : List Int) (u : Value), ps[j]? = some (x, ws) → us[j]? = some u → ∀ g, u.ownBlock = some g → N ≤ g) (hu : ∀ g, u.ownBlock = some g → N ≤ g) :
    ∀ (j : Nat) (y : Int) (zs : List Int) (u' : Value), (ps ++ [(x, ws)])[j]? = some (y, zs) → (us ++ [u])[j]? = some u' → ∀ g, u'.ownBlock = some g → N ≤ g := by
  intro j y zs u' h1 h2
  rcases Nat.lt_or_ge j ps.length with hk | hk
  · rw [List.getElem?_append_left hk] at h1
    rw [List.getElem?_append_left (by omega)] at h2
    exact h j y zs u' h1 h2
  · rw [List.getElem?_append_right (by omega)] at h2
    have e0 : j - us.length = 0 := by have := (List.getElem?_eq_some_iff.1 h2).1; simp at this; omega
    rw [e0] at h2
    obtain rfl : u = u' := by simpa using h2
    exact hu

def WithoutPost (ps : List Pg) (w : World) (e : Ending) (w' : World) : Prop := ∃ v us, e = .returned (.agg #[v]) ∧ PagesRow w' w.heap.size v ps us ∧ Below w.heap.size w w' ∧
  ∀ (k : Nat) (x : Int) (ws : List Int) (u : Value), ps[k]? = some (x, ws) → us[k]? = some u → ∀ g, u.ownBlock = some g → w.heap.size ≤ g

set_option maxHeartbeats 2000000 in
theorem without_any (v : Value) (ps : List Pg) (base : Int) (w : World) (h : PagesAt w v ps) (hs : Small ps) :
    Calls Try.prog 29 #[.agg #[v], .int .i64 base] w (WithoutPost (fil base ps) w) := by
  have HPA := Lib.hid h
  obtain ⟨A, cap, rfl, hcap, hm, hc⟩ := h
  clear hc
  have hm' := hm.1
  clear hm
  have hl := hs.1
  have HS := Lib.hid hs; clear hs
  go_enter Try.func29, Try.ntmps29
  go_wp2_with fail
  refine (copy_any _ ps _ (HPA.out.below (((Below.refl _ _).al _).al _)) HS.out).mono ?_
  rintro e w1 ⟨cv, us0, rfl, hd, hb1⟩
  obtain ⟨C, cc, rfl⟩ := hd.1.shape
  have hb1' : Below w.heap.size w w1 := (((Below.refl _ _).al _).al _).tr hb1
  have hs1 : w.heap.size + 2 ≤ w1.heap.size := by have := hb1.size; simp at this; omega
  have hbr1 : Box w1 (w.heap.size + 1) 24 (.slice none 0 0) := by
    have hx := (Box.new (w.alloc (.cells #[.slice A ps.length cap] 24)) 24 (.slice none 0 0)).below hb1 (by simp)
    simpa using hx
  have hd1 : Deep w1 (w.heap.size + 2) (.slice C ps.length cc) ps us0 := by simpa using hd
  have HD1 := Lib.hid hd1; have HB1 := Lib.hid hb1'; have HBR1 := Lib.hid hbr1
  clear hd hb1 hb1' hd1 hbr1
  go_wp2_with fail
  go_loopw [7] (fun s wr => ∃ (k : Nat) (us : List Value) (v : Value), s = .int .i64 (k : Int) ∧ k ≤ ps.length ∧ Box wr w1.heap.size 24 (.slice C ps.length cc) ∧ Box wr (w1.heap.size + 1) 24 v ∧
      PagesRow wr (w1.heap.size + 2) v (fil base (ps.take k)) us ∧ OffAll (fil base (ps.take k)) us w1.heap.size (w1.heap.size + 2) ∧
      (∀ (j : Nat) (x : Int) (ws : List Int) (u : Value), (fil base (ps.take k))[j]? = some (x, ws) → us[j]? = some u → ∀ g, u.ownBlock = some g → w.heap.size + 2 ≤ g) ∧ Below w1.heap.size w1 wr) (fun s _ => ps.length - (intOf s).toNat)
  case atStart =>
    refine ⟨0, [], .slice none 0 0, rfl, by omega, ?_, ?_, PagesRow.nil _ _, OffAll.nil _ _, by simp [fil], ((Below.refl _ _).al _).al _⟩
    · exact (Box.new _ _ _).alloc _
    · have hx := Box.new (w1.alloc (.cells #[.slice C ps.length cc] 24)) 24 (.slice none 0 0)
      simpa using hx
  case round =>
    obtain ⟨k, us, v, rfl, hk, hb0, hb2, hrow, hoff, hge, hb⟩ := hrel
    obtain ⟨V, vc, rfl⟩ := hrow.shape
    have hfl : (fil base (ps.take k)).length ≤ ps.length := by have := fil_len base (ps.take k); simp at this; omega
    obtain ⟨m, hm⟩ : ∃ m, m = (fil base (ps.take k)).length := ⟨_, rfl⟩
    rw [← hm] at hb2 hrow hfl
    have HM := Lib.hid hm; clear hm
    have c0 := hb0.cell; have c2 := hb2.cell; have f2 := hb2.frozen; have l2 := hb2.lt
    have HB0 := Lib.hid hb0; have HB2 := Lib.hid hb2; have HROW := Lib.hid hrow; have HOFF := Lib.hid hoff; have HB := Lib.hid hb; have HGE := Lib.hid hge
    clear hb0 hb2 hrow hoff hb hge
    by_cases hlt : k < ps.length
    · obtain ⟨⟨x, ws⟩, hx⟩ := get_of_lt hlt
      obtain ⟨b, cc', u, e1, hu0, hi, p1, p2, hu, hbB⟩ := HD1.out.1.get hx
      obtain ⟨rfl, rfl⟩ : C = some ⟨b, 0, none⟩ ∧ cc = cc' := by simpa using e1
      clear e1
      have hun := (HD1.out.2.1 k x ws u hx hu0).1
      have d1 := cell_below HB.out p1; have d2 := cell_below HB.out p2
      have hbl := World.block_lt_of_cell? _ _ p1
      simp only at hbl
      have hbs := HB.out.size
      have HUN := Lib.hid hun; have HU := Lib.hid hu; have HX := Lib.hid hx
      obtain ⟨U, uc, rfl, _⟩ := hu
      clear hun p1 p2 hx hu0
      by_cases hxb : x = base
      · have hne : (x != base) = false := by simp [hxb]
        have HNE := Lib.hid hne
        clear hxb
        go_wp2_with fail
        go_roundw
        case rel =>
          refine ⟨k + 1, us, _, by go_num, by omega, HB0.out, HB2.out, ?_, ?_, ?_, HB.out⟩
          · rw [fil_snoc_out HX.out HNE.out]; exact HROW.out
          · rw [fil_snoc_out HX.out HNE.out]; exact HOFF.out
          · rw [fil_snoc_out HX.out HNE.out]; exact HGE.out
        case measure => simp [intOf]; omega
      · have hne : (x != base) = true := by simp [hxb]
        have HNE := Lib.hid hne
        have hk0 : (0 : Int) ≤ (k : Int) := Int.natCast_nonneg _
        have hk1 : (k : Int) < (ps.length : Int) := by omega
        clear hxb
        go_wp2_with fail
        obtain ⟨S, eS⟩ : ∃ S : World → Prop, S = fun w' => w'.cell? ⟨w1.heap.size + 1, 0, none⟩ = some (.slice V m vc) ∧ w'.cell? ⟨w1.heap.size, 0, none⟩ = some (.slice (some ⟨b, 0, none⟩) ps.length cc) ∧ w'.cell? ⟨b, k * 2, none⟩ = some (.int .i64 x) ∧ w'.cell? ⟨b, k * 2 + 1, none⟩ = some (.slice U ws.length uc) := ⟨_, rfl⟩
        have mkS : ∀ w' : World, w'.cell? ⟨w1.heap.size + 1, 0, none⟩ = some (.slice V m vc) → w'.cell? ⟨w1.heap.size, 0, none⟩ = some (.slice (some ⟨b, 0, none⟩) ps.length cc) → w'.cell? ⟨b, k * 2, none⟩ = some (.int .i64 x) → w'.cell? ⟨b, k * 2 + 1, none⟩ = some (.slice U ws.length uc) → S w' := fun w' g0 g1 g2 g3 => by rw [eS]; exact ⟨g0, g1, g2, g3⟩
        have sS := mkS _ c2 c0 d1 d2
        have ne_ : Nonempty (Lex.HW S) := ⟨⟨_, sS⟩⟩
        have exS : ∀ w' : World, S w' → w'.cell? ⟨w1.heap.size + 1, 0, none⟩ = some (.slice V m vc) ∧ w'.cell? ⟨w1.heap.size, 0, none⟩ = some (.slice (some ⟨b, 0, none⟩) ps.length cc) ∧ w'.cell? ⟨b, k * 2, none⟩ = some (.int .i64 x) ∧ w'.cell? ⟨b, k * 2 + 1, none⟩ = some (.slice U ws.length uc) := fun w' h => by rw [eS] at h; exact h
        have q0_ : ∀ p : Lex.HW S, p.w.cell? ⟨w1.heap.size + 1, 0, none⟩ = some (.slice V m vc) := fun p => (exS _ p.ok).1
        have q1_ : ∀ p : Lex.HW S, p.w.cell? ⟨w1.heap.size, 0, none⟩ = some (.slice (some ⟨b, 0, none⟩) ps.length cc) := fun p => (exS _ p.ok).2.1
        have q2_ : ∀ p : Lex.HW S, p.w.cell? ⟨b, k * 2, none⟩ = some (.int .i64 x) := fun p => (exS _ p.ok).2.2.1
        have q3_ : ∀ p : Lex.HW S, p.w.cell? ⟨b, k * 2 + 1, none⟩ = some (.slice U ws.length uc) := fun p => (exS _ p.ok).2.2.2
        clear eS exS
        have MKS := Lib.hid mkS; clear mkS sS
        refine Lex.wp_region_lex S 10 [([0, 1, 2, 3, 4, 5, 6], some 7), ([], some 8), ([9], some 10)] (by kernel_rfl) (by kernel_rfl) (fun _ _ d _ _ h => by cases d <;> exact h) (MKS.out _ c2 c0 d1 d2) ?_
        refine Lex.lexW_some (os := ?_) (o := ?_) (by simp only [List.filterMap_cons, List.filterMap_nil, List.getElem?_toArray, List.getElem?_cons_zero, List.getElem?_cons_succ]; rfl) (by simp only [List.getElem?_toArray, List.getElem?_cons_zero, List.getElem?_cons_succ]; rfl) ?_
        repeat (first | go_big_quiet_step (fail) | quiet_step (fail))
        refine wpQuiet_nil ?_
        intro K hK
        have HK := Lib.hid hK; clear hK
        go_wp2_with fail
        have hA : Below wr.heap.size wr (wr.alloc (.cells #[.int .i64 x, .slice U ws.length uc] 31)).drew := ((Below.refl _ _).al _).drew
        refine HK.out _ _ (fun _ => MKS.out _ (cell_below hA c2) (cell_below hA c0) (cell_below hA d1) (cell_below hA d2)) ?_
        clear HK K
        clear hA
        refine Lex.lexW_some (os := ?_) (o := ?_) (by simp only [List.filterMap_nil]; rfl) (by simp only [List.getElem?_toArray, List.getElem?_cons_zero, List.getElem?_cons_succ]; rfl) ?_
        repeat (first | go_big_quiet_step (fail) | quiet_step (fail))
        refine wpQuiet_nil ?_
        intro K hK
        have HK := Lib.hid hK; clear hK
        go_wp2_with (at_builtin; refine app_page _ rfl (.tmp 26) (.tmp 32) rfl (w1.heap.size + 2) (.slice V m vc) (fil base (ps.take k)) us rfl (HROW.out.below ((Below.refl _ _).al _).drew) wr.heap.size x (.slice U ws.length uc) ws rfl (by simp [go_sem]) (by simp [go_sem]) hi ((HU.out.below HB.out).below ((Below.refl _ _).al _).drew) (fun hn => off_old HU.out hn HROW.out (by omega)) (by rw [← HM.out]; omega) (by simp; omega) ?_; intro v3 w3 ho3 hg3 hat3; have HO3 := Lib.hid ho3; have HG3 := Lib.hid hg3; have HAT3 := Lib.hid hat3; clear ho3 hg3 hat3)
        obtain ⟨V3, vc3, hv3⟩ := HO3.out.shape
        have hk3 : (fil base (ps.take k) ++ [(x, ws)]).length = m + 1 := by simp [HM.out]
        rw [hk3] at hv3
        subst hv3
        clear hk3
        have hbx3 : Box w3 (w1.heap.size + 1) 24 (.slice V m vc) := (HB2.out.alloc (.cells #[.int .i64 x, .slice U ws.length uc] 31)).drew.keep HG3.out (HROW.out.ne_ (by omega)).symm
        have hc3 := hbx3.cell; have hf3 := hbx3.frozen; have hl3 := hbx3.lt
        have HBX3 := Lib.hid hbx3; clear hbx3
        refine HK.out _ _ (fun _ => MKS.out _ hc3 (HG3.out.cell (cell_below ((Below.refl _ _).al _) c0) (HROW.out.neC (by omega))) (HG3.out.cell (cell_below ((Below.refl _ _).al _) d1) (HROW.out.neC (by omega))) (HG3.out.cell (cell_below ((Below.refl _ _).al _) d2) (HROW.out.neC (by omega)))) ?_
        clear HK K
        refine Lex.lexW_some (os := ?_) (o := ?_) (by simp only [List.filterMap_cons, List.filterMap_nil, List.getElem?_toArray, List.getElem?_cons_zero, List.getElem?_cons_succ]; rfl) (by simp only [List.getElem?_toArray, List.getElem?_cons_zero, List.getElem?_cons_succ]; rfl) ?_
        repeat (first | go_big_quiet_step (fail) | quiet_step (fail))
        refine wpQuiet_nil ?_
        intro K hK
        have HK := Lib.hid hK; clear hK
        go_wp2_with fail
        refine HK.out _ _ (fun h => absurd h (by decide)) (Lex.lexW_nil ?_)
        clear HK K
        go_wp2_with fail
        go_roundw
        case rel =>
          have hof : ∀ g, w1.heap.size ≤ g → g < w1.heap.size + 2 → Off (.slice U ws.length uc) ws (some g) := fun g h1 _ => Off.new_ HU.out h1
          have hoff3 := HOFF.out.snoc (x := x) HROW.out.1 hof
          have hr3 := HO3.out.setCell (p := ⟨w1.heap.size + 1, 0, none⟩) (x := .slice V3 (m + 1) vc3) (by simp) hoff3 (by simp) (by simp)
          refine ⟨k + 1, us ++ [.slice U ws.length uc], _, by go_num, by omega, ((HB0.out.alloc (.cells #[.int .i64 x, .slice U ws.length uc] 31)).drew.keep HG3.out (HROW.out.ne_ (by omega)).symm).far (by simp <;> omega) _, HBX3.out.set_ _, ?_, ?_, ?_, ?_⟩
          · rw [fil_snoc_in HX.out HNE.out]; exact hr3
          · rw [fil_snoc_in HX.out HNE.out]; exact hoff3
          · rw [fil_snoc_in HX.out HNE.out]
            exact snoc_all HROW.out.1 HGE.out (fun g hg => (HUN.out.lt g hg).1)
          · exact ((((HB.out.al (.cells #[.int .i64 x, .slice U ws.length uc] 31)).drew).grown HG3.out (by simp; omega) (fun g hg => by have := (HROW.out.lt g hg).1; omega)).setCell (by simp <;> omega) _)
        case measure => simp [intOf]; omega
    · have hbr := HBR1.out.below HB.out (by omega)
      have cr := hbr.cell; have fr := hbr.frozen; have lr := hbr.lt
      have HBR := Lib.hid hbr; clear hbr
      go_wp2_with fail
      have hcS := (HBR.out.set_ (.slice V m vc)).cell
      refine bodyPost_ret (v := .agg #[.slice V m vc]) ?_ rfl ?_
      · simp [results, Try.results29, go_sem, hcS]
      have hr := HROW.out.keep (grownBy_setCell wr ⟨w.heap.size + 1, 0, none⟩ (.slice V m vc)) (.inr (HROW.out.ne_ (by simp; omega))) (fun j x ws u a b _ e => by have := HGE.out j x ws u a b _ e; simp at this)
      have hge := HGE.out
      rw [List.take_of_length_le (by omega)] at hr hge
      exact ⟨_, us, rfl, hr.base (by omega), (HB1.out.tr HB.out).setCell (by simp) _, fun j x ws u a b g e => by have := hge j x ws u a b g e; omega⟩
end Go.Proofs.Ytgkenbjpmondeaa
