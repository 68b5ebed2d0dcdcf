/- Proved: debuggerlaw25.MemoryDiffers returns true for every input. -/
import Derived.Test.YtgkenbjpmondeaaLawPages
import Derived.Test.YtgkenbjpmondeaaChgP
namespace Go.Proofs.Ytgkenbjpmondeaa
open Go.RowKit

theorem addR_ok {ps : List Pg} {p : Pg} (h : pageB p = true) : addR ps p = (addF (fil p.1 ps) p, 0) := by unfold addR; rw [if_pos h]
theorem IntsAt.one {w : World} {v : Value} {x : Int} (h : IntsAt w v [x]) : ∃ b off c, v = .slice (some ⟨b, off, none⟩) 1 c ∧ w.cell? ⟨b, off, none⟩ = some (.int .i64 x) := by
  obtain ⟨A, cap, rfl, _, _, hc⟩ := h
  obtain ⟨b, off, rfl, _, h0⟩ := hc 0 x rfl
  exact ⟨b, off, cap, rfl, h0⟩
theorem IntsAt.zero {w : World} {v : Value} (h : IntsAt w v []) : ∃ A c, v = .slice A 0 c := by
  obtain ⟨A, cap, rfl, _⟩ := h
  exact ⟨A, cap, rfl⟩

theorem setz (w : World) (word : Int) (hw : I64 word) : IntsAt (w.alloc (.cells (zeros64.set 3 (.int .i64 word)).toArray 3)) (.slice (some ⟨w.heap.size, 0, none⟩) 64 64) ((List.replicate 64 (0 : Int)).set 3 word) := by
  have hh : (w.alloc (.cells (zeros64.set 3 (.int .i64 word)).toArray 3)).heap[w.heap.size]? = some (.cells (((List.replicate 64 (0 : Int)).set 3 word).map (Value.int .i64)).toArray 3 (0, 0)) := by
    rw [heap_alloc_new]
    simp [zeros64, List.map_set]
  refine ⟨_, 64, by simp, by simp, ⟨by omega, by simp⟩, fun k x hx => ⟨w.heap.size, 0, rfl, ?_, ?_⟩⟩
  · have hy := List.mem_of_getElem? hx
    rcases List.mem_or_eq_of_mem_set hy with hy | rfl
    · obtain ⟨_, rfl⟩ := List.mem_replicate.1 hy
      unfold I64; omega
    · exact hw
  · rw [Nat.zero_add, cell_of_row _ _ _ _ 3 (0, 0) hh, List.getElem?_toArray, List.getElem?_map, hx]
    rfl

set_option maxRecDepth 100000 in
set_option maxHeartbeats 4000000 in
theorem memoryDiffers_any (v o : Value) (l l2 : List Int) (k word : Int) (w : World) (h : IntsAt w v l) (h2 : IntsAt w o l2) (hk : I64 k) (hw : I64 word) :
    Calls Try.prog 9 #[v, o, .int .i64 k, .int .i64 word] w (EqPost true w) := by
  have HI := Lib.hid h; have HI2 := Lib.hid h2; have HKI := Lib.hid hk; have HW := Lib.hid hw
  clear h h2 hk hw
  go_enter Try.func9, Try.ntmps9
  go_wp2_with fail
  refine (some_any _ l _ HI.out).mono ?_
  rintro e w1 ⟨v1, us1, rfl, hrow1, -, hb1⟩
  obtain ⟨V, vc, rfl⟩ := hrow1.shape
  have HP1 := Lib.hid hrow1.at_; have HB1 := Lib.hid hb1
  clear hrow1 hb1
  go_wp2_with fail
  refine (some_any _ l2 _ (HI2.out.below HB1.out)).mono ?_
  rintro e w2 ⟨v2, us2, rfl, hrow2, -, hb2⟩
  obtain ⟨O, oc, rfl⟩ := hrow2.shape
  have g1 := (take_good l 8 (Nat.le_refl _)).1
  have l8 := (take_good l 8 (Nat.le_refl _)).2
  have l82 := (take_good l2 8 (Nat.le_refl _)).2
  have HP2 := Lib.hid hrow2.at_; have HPA := Lib.hid (HP1.out.below hb2)
  have HB2 := Lib.hid (HB1.out.tr hb2)
  clear hrow2 hb2
  obtain ⟨ps, hps⟩ : ∃ ps, ps = someL l := ⟨_, rfl⟩
  obtain ⟨qs, hqs⟩ : ∃ qs, qs = someL l2 := ⟨_, rfl⟩
  have HG1 : Hid (GoodL ps) := by rw [hps]; exact Lib.hid g1
  have hl1 : ps.length ≤ 8 := by rw [hps]; exact l8
  have hl2 : qs.length ≤ 8 := by rw [hqs]; exact l82
  rw [← hps] at HPA ⊢
  rw [← hqs] at HP2 ⊢
  clear hps hqs g1 l8 l82 HP1
  obtain ⟨s0, s1⟩ := with_start w2 (.slice V ps.length vc) (.slice O qs.length oc)
  have b3 : Below w2.heap.size w2 ((w2.alloc (.cells #[.slice V ps.length vc] 24)).alloc (.cells #[.slice O qs.length oc] 24)) := ((Below.refl _ _).al _).al _
  have HPA3 := Lib.hid (HPA.out.below b3); have HPO3 := Lib.hid (HP2.out.below b3); have HB3 := Lib.hid (HB2.out.tr b3); have HM3 := Lib.hid s0; have HO3 := Lib.hid s1
  clear s0 s1 b3 HPA HP2
  go_wp2_with fail
  generalize (w2.alloc (.cells #[.slice V ps.length vc] 24)).alloc (.cells #[.slice O qs.length oc] 24) = w3 at HPA3 HPO3 HB3 HM3 HO3 ⊢
  have cm := HM3.out.cell; have lm := HM3.out.lt; have co := HO3.out.cell; have lo := HO3.out.lt
  obtain ⟨n1, hn1⟩ : ∃ n1, n1 = (chg ps qs).length := ⟨_, rfl⟩
  obtain ⟨bq, hbq⟩ : ∃ bq, bq = (ps == qs) := ⟨_, rfl⟩
  have hcl := chg_len ps qs
  rw [← hn1, ← hbq] at hcl
  have t1 : ((n1 : Int) == 0) = bq := by rw [← hcl]; rw [Bool.eq_iff_iff]; simp
  have t2 : (bq != bq) = false := by simp
  have HN1 := Lib.hid hn1; have HBQ := Lib.hid hbq
  clear hn1 hbq hcl
  obtain ⟨S, eS⟩ : ∃ S : World → Prop, S = fun w' => w'.cell? ⟨w2.heap.size, 0, none⟩ = some (.slice V ps.length vc) ∧ w'.cell? ⟨w2.heap.size + 1, 0, none⟩ = some (.slice O qs.length oc) := ⟨_, rfl⟩
  have mkS : ∀ w' : World, w'.cell? ⟨w2.heap.size, 0, none⟩ = some (.slice V ps.length vc) → w'.cell? ⟨w2.heap.size + 1, 0, none⟩ = some (.slice O qs.length oc) → S w' := fun w' g0 g1 => by rw [eS]; exact ⟨g0, g1⟩
  have sS := mkS _ cm co
  have ne_ : Nonempty (Lex.HW S) := ⟨⟨_, sS⟩⟩
  have exS : ∀ w' : World, S w' → w'.cell? ⟨w2.heap.size, 0, none⟩ = some (.slice V ps.length vc) ∧ w'.cell? ⟨w2.heap.size + 1, 0, none⟩ = some (.slice O qs.length oc) := fun w' h => by rw [eS] at h; exact h
  have q0_ : ∀ p : Lex.HW S, p.w.cell? ⟨w2.heap.size, 0, none⟩ = some (.slice V ps.length vc) := fun p => (exS _ p.ok).1
  have q1_ : ∀ p : Lex.HW S, p.w.cell? ⟨w2.heap.size + 1, 0, none⟩ = some (.slice O qs.length oc) := fun p => (exS _ p.ok).2
  clear eS exS
  have MKS := Lib.hid mkS; clear mkS sS
  refine Lex.wp_region_lex S 16 [([0, 1, 5, 6], some 2), ([3, 4], some 7), ([8, 9, 10, 11], some 12), ([13, 14, 15], none)] (by kernel_rfl) (by kernel_rfl) (fun _ _ d _ _ h => by cases d <;> exact h) (MKS.out _ cm co) ?_
  refine Lex.lexW_some (os := ?_) (o := ?_) (by simp only [List.filterMap_cons, List.filterMap_nil, List.getElem?_toArray, List.getElem?_cons_zero, List.getElem?_cons_succ]; rfl) (by simp only [List.getElem?_toArray, List.getElem?_cons_zero, List.getElem?_cons_succ]; rfl) ?_
  repeat (first | go_big_quiet_step (fail) | quiet_step (fail))
  refine wpQuiet_nil ?_
  intro K hK
  have HK := Lib.hid hK; clear hK
  go_wp2_with fail
  refine (changed_any _ _ ps qs _ (HPA3.out.below ((Below.refl _ _).drew)) (HPO3.out.below ((Below.refl _ _).drew)) (by omega) (by omega)).mono ?_
  rintro e w4 ⟨v4, rfl, hi4, hb4⟩
  obtain ⟨A4, k4, rfl⟩ := hi4.shape
  rw [← HN1.out]
  have B4 := Lib.hid (((Below.refl _ _).drew).tr hb4)
  clear hi4 hb4
  go_wp2_with fail
  refine HK.out _ _ (fun _ => MKS.out _ (cell_below B4.out cm) (cell_below B4.out co)) ?_
  clear HK K
  refine Lex.lexW_some (os := ?_) (o := ?_) (by simp only [List.filterMap_cons, List.filterMap_nil, List.getElem?_toArray, List.getElem?_cons_zero, List.getElem?_cons_succ]; rfl) (by simp only [List.getElem?_toArray, List.getElem?_cons_zero, List.getElem?_cons_succ]; rfl) ?_
  repeat (first | go_big_quiet_step (fail) | quiet_step (fail))
  refine wpQuiet_nil ?_
  intro K hK
  have HK := Lib.hid hK; clear hK
  go_wp2_with fail
  refine (same_any _ _ ps qs _ (HPA3.out.below B4.out) (HPO3.out.below B4.out)).mono ?_
  rintro e w5 ⟨rfl, hb5⟩
  rw [← HBQ.out]
  have B5 := Lib.hid (B4.out.tr hb5)
  clear hb5
  go_wp2_with fail
  refine HK.out _ _ (fun _ => MKS.out _ (cell_below B5.out cm) (cell_below B5.out co)) ?_
  clear HK K
  refine Lex.lexW_some (os := ?_) (o := ?_) (by simp only [List.filterMap_cons, List.filterMap_nil, List.getElem?_toArray, List.getElem?_cons_zero, List.getElem?_cons_succ]; rfl) (by simp only [List.getElem?_toArray, List.getElem?_cons_zero, List.getElem?_cons_succ]; rfl) ?_
  repeat (first | go_big_quiet_step (fail) | quiet_step (fail))
  refine wpQuiet_nil ?_
  intro K hK
  have HK := Lib.hid hK; clear hK
  go_wp2_with fail
  refine (changed_any _ _ ps ps _ (HPA3.out.below B5.out) (HPA3.out.below B5.out) (by omega) (by omega)).mono ?_
  rintro e w6 ⟨v6, rfl, hi6, hb6⟩
  rw [chg_self] at hi6
  obtain ⟨A6, k6, rfl⟩ := hi6.at_.zero
  have B6 := Lib.hid (B5.out.tr hb6)
  clear hi6 hb6
  go_wp2_with fail
  refine HK.out _ _ (fun _ => MKS.out _ (cell_below B6.out cm) (cell_below B6.out co)) ?_
  clear HK K
  refine Lex.lexW_none (os := ?_) (by simp only [List.filterMap_cons, List.filterMap_nil, List.getElem?_toArray, List.getElem?_cons_zero, List.getElem?_cons_succ]; rfl) ?_
  repeat (first | go_big_quiet_step (fail) | quiet_step (fail))
  refine wpQuiet_nil (Lex.lexW_nil ?_)
  clear t1 t2
  obtain ⟨x, hx⟩ : ∃ x, x = k % 12 * 64 := ⟨_, rfl⟩
  have hm1 : 0 ≤ k % 12 := by omega
  have hm2 : k % 12 < 12 := by omega
  have HXE := Lib.hid hx
  have cm6 := cell_below B6.out cm; have lm6 : w2.heap.size < w6.heap.size := by have := B6.out.size; omega
  clear hx cm lm co lo
  go_wp2_with fail
  refine (mod_any k 12 _ HKI.out (by omega) (by omega)).mono ?_
  rintro e w' ⟨rfl, rfl⟩
  have hmk := mk64
  go_wp2_with fail
  clear hmk
  rw [← HXE.out]
  have hxi : I64 x := by have := HXE.out; unfold I64; omega
  have hpg : pageB (x, (List.replicate 64 (0 : Int)).set 3 word) = true := by
    have := HXE.out
    rw [pageB_iff]
    exact ⟨by omega, by omega, by omega, by simp⟩
  obtain ⟨zs, hzs⟩ : ∃ zs, zs = (List.replicate 64 (0 : Int)).set 3 word := ⟨_, rfl⟩
  have hz := (setz w6 word HW.out).below ((Below.refl _ _).al (.cells #[.int .i64 x, .slice (some ⟨w6.heap.size, 0, none⟩) 64 64] 31))
  rw [← hzs] at hz hpg
  have B7 := Lib.hid ((B6.out.al (.cells (zeros64.set 3 (.int .i64 word)).toArray 3)).al (.cells #[.int .i64 x, .slice (some ⟨w6.heap.size, 0, none⟩) 64 64] 31))
  have HZ := Lib.hid hz
  generalize (w6.alloc (.cells (zeros64.set 3 (.int .i64 word)).toArray 3)).alloc (.cells #[.int .i64 x, .slice (some ⟨w6.heap.size, 0, none⟩) 64 64] 31) = w7 at HZ B7 ⊢
  have hgl := goodL_addF HG1.out hpg (by omega)
  obtain ⟨L1, hL1⟩ : ∃ L1, L1 = addF (fil x ps) (x, zs) := ⟨_, rfl⟩
  have hfil : fil x L1 = fil x ps := by rw [hL1]; exact fil_add (p := (x, zs))
  have hchg : chg L1 (fil x ps) = [x] := by rw [hL1]; exact chg_add (p := (x, zs)) (fun q hq => fil_base hq)
  have hR : addR ps (x, zs) = (L1, 0) := by rw [addR_ok hpg, hL1]
  have hgL : GoodL L1 := by rw [hL1]; exact hgl
  have hgf := goodL_fil HG1.out x
  have hll : L1.length ≤ 50000 := hgL.1
  have hfl : (fil x ps).length ≤ 8 := Nat.le_trans (fil_len x ps) hl1
  have HR := Lib.hid hR; have HFIL := Lib.hid hfil; have HCHG := Lib.hid hchg; have HGL := Lib.hid hgL; have HGF := Lib.hid hgf; have HXI := Lib.hid hxi
  clear hz hzs hL1 hfil hchg hR hgL hgl hgf hpg hxi cm6 lm6 hm1 hm2
  refine (madd_all _ _ ps x zs _ (HPA3.out.below B7.out) HG1.out.good (by omega) HXI.out HZ.out).mono fun _ w8 h => ?_
  obtain ⟨V8, k8, rfl, hp8, hb8⟩ := h.is HR.out
  have B8 := Lib.hid (B7.out.tr hb8); have HP8 := Lib.hid hp8
  clear h hp8 hb8
  go_wp2_with fail
  refine (mwithout_any _ L1 x _ (HP8.out.below ((Below.refl _ _).al _)) HGL.out.small).mono ?_
  rintro e w9 ⟨v9, us9, rfl, hd9, hb9⟩
  rw [HFIL.out] at hd9
  obtain ⟨V9, k9, rfl⟩ := hd9.1.shape
  have ba9 := (Box.new w8 24 (.slice V8 L1.length k8)).below hb9 (by simp)
  have b89 : Below w8.heap.size w8 w9 := ((Below.refl _ _).al _).tr hb9
  have B9 := Lib.hid (B8.out.tr b89); have HP89 := Lib.hid (HP8.out.below b89); have HP9 := Lib.hid hd9.1.at_; have BA9 := Lib.hid ba9
  have ca9 := ba9.cell; have la9 := ba9.lt
  clear hd9 hb9 ba9 b89
  go_wp2_with fail
  refine (changed_any _ _ L1 (fil x ps) _ (HP89.out.below ((Below.refl _ _).al _)) (HP9.out.below ((Below.refl _ _).al _)) (by omega) (by omega)).mono ?_
  rintro e w10 ⟨v10, rfl, hi10, hb10⟩
  rw [HCHG.out] at hi10
  obtain ⟨cb, co, cc, rfl, cc10⟩ := hi10.at_.one
  have bb10 := (Box.new w9 24 (.slice V9 (fil x ps).length k9)).below hb10 (by simp)
  have b910 : Below w9.heap.size w9 w10 := ((Below.refl _ _).al _).tr hb10
  have B10 := Lib.hid (B9.out.tr b910); have BA10 := Lib.hid (BA9.out.below b910 BA9.out.lt); have BB10 := Lib.hid bb10; have HP810 := Lib.hid (HP89.out.below b910); have HP910 := Lib.hid (HP9.out.below b910)
  have cm10 := cell_below B10.out HM3.out.cell; have cb10 := bb10.cell
  clear hi10 hb10 bb10 b910 ca9 la9
  go_wp2_with fail
  obtain ⟨S, eS⟩ : ∃ S : World → Prop, S = fun w' => w'.cell? ⟨w2.heap.size, 0, none⟩ = some (.slice V ps.length vc) ∧ w'.cell? ⟨w9.heap.size, 0, none⟩ = some (.slice V9 (fil x ps).length k9) := ⟨_, rfl⟩
  have mkS : ∀ w' : World, w'.cell? ⟨w2.heap.size, 0, none⟩ = some (.slice V ps.length vc) → w'.cell? ⟨w9.heap.size, 0, none⟩ = some (.slice V9 (fil x ps).length k9) → S w' := fun w' g0 g1 => by rw [eS]; exact ⟨g0, g1⟩
  have sS := mkS _ cm10 cb10
  have ne_ : Nonempty (Lex.HW S) := ⟨⟨_, sS⟩⟩
  have exS : ∀ w' : World, S w' → w'.cell? ⟨w2.heap.size, 0, none⟩ = some (.slice V ps.length vc) ∧ w'.cell? ⟨w9.heap.size, 0, none⟩ = some (.slice V9 (fil x ps).length k9) := fun w' h => by rw [eS] at h; exact h
  have q0_ : ∀ p : Lex.HW S, p.w.cell? ⟨w2.heap.size, 0, none⟩ = some (.slice V ps.length vc) := fun p => (exS _ p.ok).1
  have q1_ : ∀ p : Lex.HW S, p.w.cell? ⟨w9.heap.size, 0, none⟩ = some (.slice V9 (fil x ps).length k9) := fun p => (exS _ p.ok).2
  clear eS exS
  have MKS := Lib.hid mkS; clear mkS sS
  refine Lex.wp_region_lex S 6 [([0, 1, 3], some 2), ([], some 4), ([5], none)] (by kernel_rfl) (by kernel_rfl) (fun _ _ d _ _ h => by cases d <;> exact h) (MKS.out _ cm10 cb10) ?_
  refine Lex.lexW_some (os := ?_) (o := ?_) (by simp only [List.filterMap_cons, List.filterMap_nil, List.getElem?_toArray, List.getElem?_cons_zero, List.getElem?_cons_succ]; rfl) (by simp only [List.getElem?_toArray, List.getElem?_cons_zero, List.getElem?_cons_succ]; rfl) ?_
  repeat (first | go_big_quiet_step (fail) | quiet_step (fail))
  refine wpQuiet_nil ?_
  intro K hK
  have HK := Lib.hid hK; clear hK
  go_wp2_with fail
  refine (mwithout_any _ ps x _ (HPA3.out.below B10.out.drew) HG1.out.small).mono ?_
  rintro e w11 ⟨v11, us11, rfl, hd11, hb11⟩
  have B11 := Lib.hid (((Below.refl _ _).drew).tr hb11); have HP11 := Lib.hid hd11.1.at_
  clear hd11 hb11
  go_wp2_with fail
  refine HK.out _ _ (fun _ => MKS.out _ (cell_below B11.out cm10) (cell_below B11.out cb10)) ?_
  clear HK K
  refine Lex.lexW_some (os := ?_) (o := ?_) (by simp only [List.filterMap_nil]; rfl) (by simp only [List.getElem?_toArray, List.getElem?_cons_zero, List.getElem?_cons_succ]; rfl) ?_
  repeat (first | go_big_quiet_step (fail) | quiet_step (fail))
  refine wpQuiet_nil ?_
  intro K hK
  have HK := Lib.hid hK; clear hK
  go_wp2_with fail
  refine (changed_any _ _ (fil x ps) (fil x ps) _ HP11.out (HP910.out.below B11.out) (by omega) (by omega)).mono ?_
  rintro e w12 ⟨v12, rfl, hi12, hb12⟩
  rw [chg_self] at hi12
  obtain ⟨A12, k12, rfl⟩ := hi12.at_.zero
  have B12 := Lib.hid (B11.out.tr hb12)
  clear hi12 hb12
  go_wp2_with fail
  refine HK.out _ _ (fun _ => MKS.out _ (cell_below B12.out cm10) (cell_below B12.out cb10)) ?_
  clear HK K
  refine Lex.lexW_none (os := ?_) (by simp only [List.filterMap_cons, List.filterMap_nil, List.getElem?_toArray, List.getElem?_cons_zero, List.getElem?_cons_succ]; rfl) ?_
  repeat (first | go_big_quiet_step (fail) | quiet_step (fail))
  refine wpQuiet_nil (Lex.lexW_nil ?_)
  have ca12 := cell_below B12.out BA10.out.cell; have cb12 := cell_below B12.out BB10.out.cell; have cc12 := cell_below B12.out cc10
  have exx : (x == x) = true := by simp
  clear cm10 cb10 cc10
  go_wp2_with fail
  refine (right_any _ L1 _ (HP810.out.below B12.out)).mono ?_
  rintro e w13 ⟨rfl, hb13⟩
  rw [HGL.out.good.right]
  have B13 := Lib.hid (B12.out.tr hb13)
  have cb13 := cell_below hb13 cb12
  clear hb13 ca12 cb12 cc12
  go_wp2_with fail
  refine (right_any _ (fil x ps) _ (HP910.out.below B13.out)).mono ?_
  rintro e w14 ⟨rfl, hb14⟩
  rw [HGF.out.good.right]
  have B14 := Lib.hid (B13.out.tr hb14)
  clear hb14 cb13
  go_wp2_with fail
  refine (awake_any _).mono ?_
  rintro e w15 ⟨rfl, hb15⟩
  have B15 := Lib.hid (B14.out.tr hb15)
  clear hb15
  go_wp2_with fail
  go_ret
  exact ⟨rfl, (HB3.out.tr B10.out).tr B15.out⟩
end Go.Proofs.Ytgkenbjpmondeaa
