/- Proved: debuggerlaw25.MemoryWords returns true for every input. -/
import Derived.Test.YtgkenbjpmondeaaWithR
import Derived.Test.YtgkenbjpmondeaaReadR
import Derived.Test.YtgkenbjpmondeaaLawHolds
namespace Go.Proofs.Ytgkenbjpmondeaa
open Go.RowKit

theorem WithP.unique {ps out out' : List Pg} {a word : Int} {ok ok' : Bool} (hg : Good ps) (h : WithP ps a word out ok) (h' : WithP ps a word out' ok') : ok = ok' ∧ out = out' := by
  rcases h with ⟨rfl, rfl, hn⟩ | ⟨rfl, i, n, b, ws, hi, hab, hn64, rfl⟩ <;> rcases h' with ⟨rfl, rfl, hn'⟩ | ⟨rfl, j, m, c, zs, hj, hac, hm64, rfl⟩
  · exact ⟨rfl, rfl⟩
  · exact absurd ⟨by omega, by omega⟩ (hn j c zs hj)
  · exact absurd ⟨by omega, by omega⟩ (hn' i b ws hi)
  · obtain ⟨rfl, rfl, rfl⟩ := hg.only (a := a) hi hj (by omega) (by omega) (by omega) (by omega)
    obtain rfl : n = m := by omega
    exact ⟨rfl, rfl⟩
theorem ReadP.unique {ps : List Pg} {addr n a a' : Int} {xs ys : List Int} (hg : Good ps) (h : ReadP ps addr n xs a) (h' : ReadP ps addr n ys a') : xs = ys ∧ a = a' := by
  have pre : ∀ j : Nat, j < xs.length → j < ys.length → xs[j]? = ys[j]? := fun j h1 h2 => by
    obtain ⟨x, hx⟩ := get_of_lt h1
    obtain ⟨y, hy⟩ := get_of_lt h2
    rw [hx, hy, ((h.1 j x hx).unique hg (h'.1 j y hy)).2]
  have hl : xs.length = ys.length := by
    rcases Nat.lt_trichotomy xs.length ys.length with hlt | e | hlt
    · exfalso
      rcases h.2 with ⟨h1, -⟩ | ⟨h1, h2, h3⟩
      · rcases h'.2 with ⟨h4, -⟩ | ⟨h4, -, -⟩ <;> omega
      · obtain ⟨y, hy⟩ := get_of_lt hlt
        have := (h'.1 _ y hy).unique hg (h2 ▸ h3)
        simp at this
    · exact e
    · exfalso
      rcases h'.2 with ⟨h1, -⟩ | ⟨h1, h2, h3⟩
      · rcases h.2 with ⟨h4, -⟩ | ⟨h4, -, -⟩ <;> omega
      · obtain ⟨y, hy⟩ := get_of_lt hlt
        have := (h.1 _ y hy).unique hg (h2 ▸ h3)
        simp at this
  have e : xs = ys := List.ext_getElem? fun j => by
    rcases Nat.lt_or_ge j xs.length with h1 | h1
    · exact pre j h1 (by omega)
    · rw [List.getElem?_eq_none h1, List.getElem?_eq_none (by omega)]
  subst e
  refine ⟨rfl, ?_⟩
  rcases h.2 with ⟨h1, h2⟩ | ⟨h1, h2, -⟩ <;> rcases h'.2 with ⟨h3, h4⟩ | ⟨h3, h4, -⟩ <;> first | omega | (rw [h2, h4])

theorem two_start (w : World) (A a b : Value) : Box ((w.alloc (.cells #[A] 24)).alloc (.cells #[a, b] 3)) w.heap.size 24 A ∧ Box2 ((w.alloc (.cells #[A] 24)).alloc (.cells #[a, b] 3)) (w.heap.size + 1) 3 a b := by
  refine ⟨(Box.new _ _ _).alloc _, ?_⟩
  have := heap_alloc_new (w.alloc (.cells #[A] 24)) (.cells #[a, b] 3)
  simpa [Box2] using this

set_option maxRecDepth 100000 in
set_option maxHeartbeats 4000000 in
theorem memoryWords_any (v : Value) (l : List Int) (addr word n : Int) (w : World) (h : IntsAt w v l) (ha : I64 addr) (hw : I64 word) (hn : I64 n) : Calls Try.prog 6 #[v, .int .i64 addr, .int .i64 word, .int .i64 n] w (EqPost true w) := by
  have HI := Lib.hid h; have HA := Lib.hid ha; have HW := Lib.hid hw; have HN := Lib.hid hn
  clear h ha hw hn
  have hgood := (take_good l 8 (Nat.le_refl _)).1.good
  have HG := Lib.hid hgood; clear hgood
  go_enter Try.func6, Try.ntmps6
  go_wp2_with fail
  refine (some_any _ l _ HI.out).mono ?_
  rintro e w1 ⟨v1, us, rfl, hrow, -, hb1⟩
  obtain ⟨V, vc, rfl⟩ := hrow.shape
  have HP1 := Lib.hid hrow.at_; have HB1 := Lib.hid hb1
  clear hrow hb1
  obtain ⟨ps, hps⟩ : ∃ ps, ps = someL l := ⟨_, rfl⟩
  rw [← hps] at HP1 ⊢
  have HGP : Hid (Good ps) := by rw [hps]; exact HG
  have HPS := Lib.hid hps
  clear hps HG
  obtain ⟨a', ha'⟩ : ∃ a', a' = addr % 832 := ⟨_, rfl⟩
  have ha0 : 0 ≤ a' := by omega
  have ha1 : a' < 832 := by omega
  have HA' := Lib.hid ha'
  clear ha'
  go_wp2_with fail
  refine (mod_any addr 832 _ HA.out (by omega) (by omega)).mono ?_
  rintro e w' ⟨rfl, rfl⟩
  rw [← HA'.out]
  obtain ⟨hs1, hs2⟩ := two_start w1 (.slice V ps.length vc) (.int .i64 addr) (.int .i64 (a' - 5))
  have HS1 := Lib.hid hs1; have HS2 := Lib.hid hs2
  clear hs1 hs2
  go_wp2_with fail
  go_loopw [32] (fun s wr => ∃ (k : Nat), s = .int .i64 (k : Int) ∧ k ≤ 2 ∧ Below (w1.heap.size + 2) ((w1.alloc (.cells #[.slice V ps.length vc] 24)).alloc (.cells #[.int .i64 addr, .int .i64 (a' - 5)] 3)) wr) (fun s _ => 2 - (intOf s).toNat)
  case atStart => exact ⟨0, rfl, by omega, Below.refl _ _⟩
  case round =>
    obtain ⟨k, rfl, hk, hb⟩ := hrel
    have hbm := HS1.out.below hb (by omega)
    have hbe := HS2.out.below hb (by omega)
    have hsz := hb.size
    simp only [World.size_alloc] at hsz
    have hBB : Below w1.heap.size w1 wr := (((Below.refl _ _).al _).al _).trans (hb.mono (by omega))
    have cm := hbm.cell; have lm := hbm.lt
    have HBM := Lib.hid hbm; have HB := Lib.hid hb; have HBB := Lib.hid hBB; have HSZ := Lib.hid hsz
    clear hbm hb hBB hsz
    by_cases hlt : k < 2
    · obtain ⟨a, hai, hca⟩ : ∃ a : Int, I64 a ∧ wr.cell? ⟨w1.heap.size + 1, k, none⟩ = some (.int .i64 a) := by
        match k, hlt with
        | 0, _ => exact ⟨addr, HA.out, hbe.cell0⟩
        | 1, _ => exact ⟨a' - 5, by unfold I64; omega, hbe.cell1⟩
      have HAI := Lib.hid hai
      clear hbe hai
      have hk0 : (0 : Int) ≤ (k : Int) := Int.natCast_nonneg _
      have hk1 : (k : Int) < 2 := by omega
      go_wp2_with fail
      refine (word_any _ ps a _ (HP1.out.below HBB.out) HGP.out HAI.out).mono ?_
      rintro e w2 ⟨y1, ok1, rfl, hw1, -, hb2⟩
      have hbm := HBM.out.below hb2 HBM.out.lt
      have cm2 := hbm.cell
      have HBM2 := Lib.hid hbm; have HB2 := Lib.hid hb2; have HW1 := Lib.hid hw1
      clear hbm hb2 hw1 cm lm hca
      go_wp2_with fail
      refine (rword_any _ ps a _ (HP1.out.below (HBB.out.tr HB2.out)) HGP.out HAI.out).mono ?_
      rintro e w3 ⟨y2, ok2, rfl, hw2, -, hb3⟩
      obtain ⟨rfl, rfl⟩ := HW1.out.unique HGP.out hw2
      have hbm := HBM2.out.below hb3 HBM2.out.lt
      have cm3 := hbm.cell
      have HBM3 := Lib.hid hbm; have HB3 := Lib.hid (HB2.out.tr hb3)
      clear hbm hb3 hw2 cm2
      go_wp2_with fail
      refine (with_any _ ps a word _ (HP1.out.below (HBB.out.tr HB3.out)) HGP.out HAI.out HW.out).mono ?_
      rintro e w4 ⟨v4, out, ok4, rfl, hp4, hpa4, hb4⟩
      obtain ⟨V4, c4, rfl, -, -, -⟩ := id hpa4
      have hbm := HBM3.out.below hb4 HBM3.out.lt
      have cm4 := hbm.cell; have lm4 := hbm.lt
      have HBM4 := Lib.hid hbm; have HB4 := Lib.hid (HB3.out.tr hb4); have HP4 := Lib.hid hp4; have HPA4 := Lib.hid hpa4
      clear hbm hb4 hp4 hpa4 cm3
      go_wp2_with fail
      refine (rwith_any _ ps a word _ (HP1.out.below (HBB.out.tr (HB4.out.al _))) HGP.out HAI.out HW.out).mono ?_
      rintro e w5 ⟨v5, out5, ok5, rfl, hp5, hpa5, hb5⟩
      obtain ⟨rfl, rfl⟩ := HP4.out.unique HGP.out hp5
      obtain ⟨V5, c5, rfl, -, -, -⟩ := id hpa5
      have hbx := (Box.new w4 24 (.slice V4 out.length c4)).below hb5 (by simp)
      have hB5 : Below w4.heap.size w4 w5 := ((Below.refl _ _).al _).tr hb5
      have hbm := HBM4.out.below hB5 HBM4.out.lt
      have cm5 := hbm.cell; have lm5 := hbm.lt; have cx5 := hbx.cell; have lx5 := hbx.lt
      have HBM5 := Lib.hid hbm; have HBX5 := Lib.hid hbx; have HB5 := Lib.hid (HB4.out.tr hB5); have HPA5 := Lib.hid hpa5; have HPX5 := Lib.hid (HPA4.out.below hB5)
      clear hbm hbx hb5 hB5 hp5 hpa5 cm4 lm4
      go_wp2_with fail
      refine (read_any _ ps a n _ (HP1.out.below (HBB.out.tr (HB5.out.al _))) HGP.out HAI.out HN.out).mono ?_
      rintro e w6 ⟨v6, xs, at6, rfl, hx6, hr6, hb6⟩
      have hby := (Box.new w5 24 (.slice V5 out.length c5)).below hb6 (by simp)
      have hB6 : Below w5.heap.size w5 w6 := ((Below.refl _ _).al _).tr hb6
      have hbm := HBM5.out.below hB6 HBM5.out.lt
      have hbx := HBX5.out.below hB6 HBX5.out.lt
      have cm6 := hbm.cell; have lm6 := hbm.lt; have cx6 := hbx.cell; have cy6 := hby.cell
      have HBM6 := Lib.hid hbm; have HBX6 := Lib.hid hbx; have HBY6 := Lib.hid hby; have HB6 := Lib.hid (HB5.out.tr hB6); have HPX6 := Lib.hid (HPX5.out.below hB6); have HPY6 := Lib.hid (HPA5.out.below hB6); have HX6 := Lib.hid hx6.at_; have HR6 := Lib.hid hr6
      clear hbm hbx hby hb6 hB6 hx6 hr6 cm5 lm5 cx5 lx5
      go_wp2_with fail
      refine (rread_any _ ps a n _ (HP1.out.below (HBB.out.tr HB6.out)) HGP.out HAI.out HN.out).mono ?_
      rintro e w7 ⟨v7, ys, at7, rfl, hx7, hr7, hb7⟩
      obtain ⟨rfl, rfl⟩ := HR6.out.unique HGP.out hr7
      have hbx := HBX6.out.below hb7 HBX6.out.lt
      have hby := HBY6.out.below hb7 HBY6.out.lt
      have cx7 := hbx.cell; have cy7 := hby.cell
      have HB7 := Lib.hid (HB6.out.tr hb7); have HPX7 := Lib.hid (HPX6.out.below hb7); have HPY7 := Lib.hid (HPY6.out.below hb7); have HX7 := Lib.hid (HX6.out.below hb7); have HY7 := Lib.hid hx7.at_
      clear hbx hby hb7 hx7 hr7 cm6 lm6 cx6 cy6
      have e1 : (y1 != y1) = false := by simp
      have e2 : (ok1 != ok1) = false := by simp
      have e3 : (ok4 != ok4) = false := by simp
      have e4 : (at6 != at6) = false := by simp
      go_wp2_with fail
      refine (same_any _ _ out out _ HPX7.out HPY7.out).mono ?_
      rintro e w8 ⟨rfl, hb8⟩
      rw [show (out == out) = true by simp]
      have HB8 := Lib.hid hb8; clear hb8 cx7 cy7
      go_wp2_with fail
      refine (ints_any _ _ xs xs _ (HX7.out.below HB8.out) (HY7.out.below HB8.out)).mono ?_
      rintro e w9 ⟨rfl, hb9⟩
      rw [show (xs == xs) = true by simp]
      have HB9 := Lib.hid hb9; clear hb9
      go_wp2_with fail
      go_roundw
      case rel => exact ⟨k + 1, by go_num, by omega, HB.out.trans (((HB7.out.tr HB8.out).tr HB9.out).mono (by have := HSZ.out; omega))⟩
      case measure => simp [intOf]; omega
    · clear hbe
      go_wp2_with fail
      obtain ⟨S, eS⟩ : ∃ S : World → Prop, S = fun w' => w'.cell? ⟨w1.heap.size, 0, none⟩ = some (.slice V ps.length vc) := ⟨_, rfl⟩
      have mkS : ∀ w' : World, w'.cell? ⟨w1.heap.size, 0, none⟩ = some (.slice V ps.length vc) → S w' := fun w' g0 => by rw [eS]; exact g0
      have sS := mkS _ cm
      have ne_ : Nonempty (Lex.HW S) := ⟨⟨_, sS⟩⟩
      have exS : ∀ w' : World, S w' → w'.cell? ⟨w1.heap.size, 0, none⟩ = some (.slice V ps.length vc) := fun w' h => by rw [eS] at h; exact h
      have q0_ : ∀ p : Lex.HW S, p.w.cell? ⟨w1.heap.size, 0, none⟩ = some (.slice V ps.length vc) := fun p => (exS _ p.ok)
      clear eS exS
      have MKS := Lib.hid mkS; clear mkS sS
      refine Lex.wp_region_lex S 8 [([0, 1], some 2), ([], some 3), ([4], some 5), ([6, 7], none)] (by kernel_rfl) (by kernel_rfl) (fun _ _ d _ _ h => by cases d <;> exact h) (MKS.out _ cm) ?_
      refine Lex.lexW_some (os := ?_) (o := ?_) (by simp only [List.filterMap_cons, List.filterMap_nil, List.getElem?_toArray, List.getElem?_cons_zero, List.getElem?_cons_succ]; rfl) (by simp only [List.getElem?_toArray, List.getElem?_cons_zero, List.getElem?_cons_succ]; rfl) ?_
      repeat (first | go_big_quiet_step (fail) | quiet_step (fail))
      refine wpQuiet_nil ?_
      intro K hK
      have HK := Lib.hid hK; clear hK
      go_wp2_with fail
      refine (some_any _ l _ (HI.out.below ((HB1.out.tr HBB.out).drew))).mono ?_
      rintro e w2 ⟨v2, us2, rfl, hrow2, -, hb2⟩
      have HP2 := Lib.hid hrow2.at_; have HB2 := Lib.hid hb2
      clear hrow2 hb2
      have cm2 := cell_below HB2.out cm
      go_wp2_with fail
      refine HK.out _ _ (fun _ => MKS.out _ cm2) ?_
      clear HK K
      refine Lex.lexW_some (os := ?_) (o := ?_) (by simp only [List.filterMap_nil]; rfl) (by simp only [List.getElem?_toArray, List.getElem?_cons_zero, List.getElem?_cons_succ]; rfl) ?_
      repeat (first | go_big_quiet_step (fail) | quiet_step (fail))
      refine wpQuiet_nil ?_
      intro K hK
      have HK := Lib.hid hK; clear hK
      go_wp2_with fail
      refine (same_any _ _ ps ps _ (HP1.out.below ((HBB.out.drew).tr HB2.out)) (by rw [HPS.out]; exact HP2.out)).mono ?_
      rintro e w3 ⟨rfl, hb3⟩
      rw [show (ps == ps) = true by simp]
      have HB3 := Lib.hid hb3; clear hb3
      have cm3 := cell_below HB3.out cm2
      go_wp2_with fail
      refine HK.out _ _ (fun _ => MKS.out _ cm3) ?_
      clear HK K
      refine Lex.lexW_some (os := ?_) (o := ?_) (by simp only [List.filterMap_cons, List.filterMap_nil, List.getElem?_toArray, List.getElem?_cons_zero, List.getElem?_cons_succ]; rfl) (by simp only [List.getElem?_toArray, List.getElem?_cons_zero, List.getElem?_cons_succ]; rfl) ?_
      repeat (first | go_big_quiet_step (fail) | quiet_step (fail))
      refine wpQuiet_nil ?_
      intro K hK
      have HK := Lib.hid hK; clear hK
      go_wp2_with fail
      refine (awake_any _).mono ?_
      rintro e w4 ⟨rfl, hb4⟩
      have HB4 := Lib.hid hb4; clear hb4
      have cm4 := cell_below HB4.out cm3
      go_wp2_with fail
      refine HK.out _ _ (fun _ => MKS.out _ cm4) ?_
      clear HK K
      refine Lex.lexW_none (os := ?_) (by simp only [List.filterMap_cons, List.filterMap_nil, List.getElem?_toArray, List.getElem?_cons_zero, List.getElem?_cons_succ]; rfl) ?_
      repeat (first | go_big_quiet_step (fail) | quiet_step (fail))
      refine wpQuiet_nil (Lex.lexW_nil ?_)
      go_wp2_with fail
      go_ret
      exact ⟨rfl, (((HB1.out.tr HBB.out).drew.tr HB2.out).tr HB3.out).tr HB4.out⟩
end Go.Proofs.Ytgkenbjpmondeaa
