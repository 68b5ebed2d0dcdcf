/- Proved: debuggerlaw25.MemoryHolds returns true for every input. -/
import Derived.Test.YtgkenbjpmondeaaWith
import Derived.Test.YtgkenbjpmondeaaLawReads
namespace Go.Proofs.Ytgkenbjpmondeaa
open Go.RowKit

theorem WithP.good {ps out : List Pg} {a word : Int} {ok : Bool} (hg : Good ps) (h : WithP ps a word out ok) : Good out := by
  rcases h with ⟨_, rfl, _⟩ | ⟨_, j, n, x, ws, hj, _, _, rfl⟩
  · exact hg
  · have get : ∀ (k : Nat) (y : Int) (zs : List Int), (ps.set j (x, ws.set n word))[k]? = some (y, zs) → ∃ zs', ps[k]? = some (y, zs') ∧ zs'.length = zs.length := fun k y zs hk => by
      have hjl := (List.getElem?_eq_some_iff.1 hj).1
      by_cases e : j = k
      · subst e
        rw [List.getElem?_set_self hjl] at hk
        simp at hk
        obtain ⟨rfl, rfl⟩ := hk
        exact ⟨ws, hj, by simp⟩
      · rw [List.getElem?_set_ne e] at hk
        exact ⟨zs, hk, rfl⟩
    refine ⟨by simpa using hg.1, fun k y zs hk => ?_, fun i k y z ws' zs hik hi hk => ?_⟩
    · obtain ⟨zs', h1, h2⟩ := get k y zs hk
      have := hg.2.1 k y zs' h1
      omega
    · obtain ⟨_, h1, _⟩ := get i y ws' hi
      obtain ⟨_, h2, _⟩ := get k z zs hk
      exact hg.2.2 i k y z _ _ hik h1 h2

theorem WithP.word {ps out : List Pg} {a b word y : Int} {ok s : Bool} (hg : Good ps) (h : WithP ps a word out ok) (hw : WordP ps b y s) : WordP out b (if s = true ∧ b = a then word else y) s := by
  rcases h with ⟨_, rfl, hno⟩ | ⟨_, j, n, x, ws, hj, ha, hn, rfl⟩
  · rcases hw with ⟨rfl, rfl, hn⟩ | ⟨rfl, i, m, z, zs, hi, hb, hm, hy⟩
    · exact .inl ⟨rfl, by simp, hn⟩
    · have : b ≠ a := fun e => hno i z zs hi ⟨by omega, by omega⟩
      rw [if_neg (by simp [this])]
      exact .inr ⟨rfl, i, m, z, zs, hi, hb, hm, hy⟩
  · have hjl := (List.getElem?_eq_some_iff.1 hj).1
    rcases hw with ⟨rfl, rfl, hno⟩ | ⟨rfl, i, m, z, zs, hi, hb, hm, hy⟩
    · refine .inl ⟨rfl, by simp, fun k z zs hk => ?_⟩
      by_cases e : j = k
      · subst e
        rw [List.getElem?_set_self hjl] at hk
        simp at hk
        obtain ⟨rfl, rfl⟩ := hk
        exact hno j _ _ hj
      · rw [List.getElem?_set_ne e] at hk
        exact hno k z zs hk
    · by_cases e : j = i
      · subst e
        rw [hj] at hi
        simp at hi
        obtain ⟨rfl, rfl⟩ := hi
        refine .inr ⟨rfl, j, m, x, ws.set n word, by rw [List.getElem?_set_self hjl], hb, hm, ?_⟩
        have hml := (List.getElem?_eq_some_iff.1 hy).1
        by_cases hba : b = a
        · obtain rfl : n = m := by omega
          rw [if_pos ⟨rfl, hba⟩, List.getElem?_set_self hml]
        · rw [if_neg (by simp [hba]), List.getElem?_set_ne (by omega)]; exact hy
      · have hba : b ≠ a := fun hh => e (hg.only (a := a) hj hi (by omega) (by omega) (by omega) (by omega)).1
        rw [if_neg (by simp [hba])]
        exact .inr ⟨rfl, i, m, z, zs, by rw [List.getElem?_set_ne e]; exact hi, hb, hm, hy⟩
theorem WithP.ok_eq {ps out : List Pg} {a word y : Int} {ok s : Bool} (h : WithP ps a word out ok) (hw : WordP ps a y s) : ok = s := by
  rcases h with ⟨rfl, rfl, hno⟩ | ⟨rfl, j, n, x, ws, hj, ha, hn, rfl⟩ <;> rcases hw with ⟨rfl, rfl, hno'⟩ | ⟨rfl, i, m, z, zs, hi, hb, hm, hy⟩
  · rfl
  · exact absurd ⟨by omega, by omega⟩ (hno i z zs hi)
  · exact absurd ⟨by omega, by omega⟩ (hno' j x ws hj)
  · rfl

set_option maxRecDepth 100000 in
set_option maxHeartbeats 4000000 in
theorem memoryHolds_any (v : Value) (l : List Int) (addr word other : Int) (w : World) (h : IntsAt w v l) (ha : I64 addr) (hw : I64 word) (ho : I64 other) : Calls Try.prog 7 #[v, .int .i64 addr, .int .i64 word, .int .i64 other] w (EqPost true w) := by
  have HI := Lib.hid h; have HA := Lib.hid ha; have HW := Lib.hid hw; have HO := Lib.hid ho
  clear h ha hw ho
  have hgood := (take_good l 8 (Nat.le_refl _)).1.good
  have HG := Lib.hid hgood; clear hgood
  go_enter Try.func7, Try.ntmps7
  go_wp2_with fail
  refine (some_any _ l _ HI.out).mono ?_
  rintro e w1 ⟨v1, us, rfl, hrow, -, hb1⟩
  obtain ⟨V, vc, rfl⟩ := hrow.shape
  have HP1 := Lib.hid hrow.at_; have HB1 := Lib.hid hb1
  clear hrow hb1
  obtain ⟨ps, hps⟩ : ∃ ps, ps = someL l := ⟨_, rfl⟩
  rw [← hps] at HP1 ⊢
  have HGP : Hid (Good ps) := by rw [hps]; exact HG
  clear hps HG
  obtain ⟨a', ha'⟩ : ∃ a', a' = addr % 768 := ⟨_, rfl⟩
  obtain ⟨b', hb'⟩ : ∃ b', b' = other % 768 := ⟨_, rfl⟩
  have ha0 : 0 ≤ a' := by omega
  have ha1 : a' < 768 := by omega
  have hb0 : 0 ≤ b' := by omega
  have hb1 : b' < 768 := by omega
  have HA' := Lib.hid ha'; have HB' := Lib.hid hb'
  clear ha' hb'
  go_wp2_with fail
  refine (mod_any addr 768 _ HA.out (by omega) (by omega)).mono ?_
  rintro e w' ⟨rfl, rfl⟩
  rw [← HA'.out]
  go_wp2_with fail
  refine (mod_any other 768 _ HO.out (by omega) (by omega)).mono ?_
  rintro e w' ⟨rfl, rfl⟩
  rw [← HB'.out]
  go_wp2_with fail
  refine (word_any _ ps a' _ (HP1.out.below ((Below.refl _ _).al _)) HGP.out (by unfold I64; omega)).mono ?_
  rintro e w2 ⟨y1, there, rfl, hw1, -, hb2⟩
  have hbx := (Box.new w1 24 (.slice V ps.length vc)).below hb2 (by simp)
  have hB2 : Below w1.heap.size w1 w2 := ((Below.refl _ _).al _).tr hb2
  have cx2 := hbx.cell
  have HBX2 := Lib.hid hbx; have HB2 := Lib.hid hB2; have HW1 := Lib.hid hw1
  clear hbx hB2 hb2 hw1
  go_wp2_with fail
  refine (word_any _ ps b' _ (HP1.out.below HB2.out) HGP.out (by unfold I64; omega)).mono ?_
  rintro e w3 ⟨old, is_, rfl, hw2, -, hb3⟩
  have hbx := HBX2.out.below hb3 HBX2.out.lt
  have cx3 := hbx.cell
  have HBX3 := Lib.hid hbx; have HB3 := Lib.hid (HB2.out.tr hb3); have HW2 := Lib.hid hw2
  clear hbx hb3 hw2 cx2
  go_wp2_with fail
  refine (with_any _ ps a' word _ (HP1.out.below HB3.out) HGP.out (by unfold I64; omega) HW.out).mono ?_
  rintro e w4 ⟨v4, out, ok, rfl, hwp, hpa4, hb4⟩
  obtain rfl := hwp.ok_eq HW1.out
  have hgo := hwp.good HGP.out
  obtain ⟨V4, c4, rfl, -, -, -⟩ := id hpa4
  have HB4 := Lib.hid (HB3.out.tr hb4); have HWP := Lib.hid hwp; have HPA4 := Lib.hid hpa4; have HGO := Lib.hid hgo
  clear hwp hpa4 hb4 hgo cx3
  go_wp2_with fail
  refine (word_any _ out a' _ (HPA4.out.below ((Below.refl _ _).al _)) HGO.out (by unfold I64; omega)).mono ?_
  rintro e w5 ⟨y5, has, rfl, hw5, -, hb5⟩
  obtain ⟨rfl, hy5⟩ := hw5.unique HGO.out (HWP.out.word HGP.out HW1.out)
  have hbx := (Box.new w4 24 (.slice V4 out.length c4)).below hb5 (by simp)
  have hB5 : Below w4.heap.size w4 w5 := ((Below.refl _ _).al _).tr hb5
  have cx5 := hbx.cell
  have HBX5 := Lib.hid hbx; have HB5 := Lib.hid hB5; have HY5 := Lib.hid hy5
  clear hbx hB5 hb5 hw5 hy5
  go_wp2_with fail
  refine (word_any _ out b' _ (HPA4.out.below HB5.out) HGO.out (by unfold I64; omega)).mono ?_
  rintro e w6 ⟨y6, still, rfl, hw6, -, hb6⟩
  obtain ⟨rfl, hy6⟩ := hw6.unique HGO.out (HWP.out.word HGP.out HW2.out)
  have hbx := HBX5.out.below hb6 HBX5.out.lt
  have cx6 := hbx.cell
  have HBX6 := Lib.hid hbx; have HB6 := Lib.hid (HB5.out.tr hb6); have HY6 := Lib.hid hy6
  clear hbx hb6 hw6 hy6 cx5
  have HBEL := Lib.hid ((HB1.out.tr HB4.out).tr HB6.out)
  cases has with
  | true =>
    obtain rfl : y5 = word := by have := HY5.out; rw [if_pos (by simp)] at this; exact this
    have hww : (y5 != y5) = false := by simp
    cases still
    · skip
      by_cases hba : b' = a'
      · have hbe : (b' == a') = true := by simp [hba]
        clear hba
        go_wp2_with fail
        refine (right_any _ out _ (HPA4.out.below HB6.out)).mono ?_
        rintro e w7 ⟨rfl, hb7⟩
        rw [HGO.out.right]
        have HB7 := Lib.hid hb7; clear hb7
        go_wp2_with fail
        refine (awake_any _).mono ?_
        rintro e w8 ⟨rfl, hb8⟩
        have HB8 := Lib.hid hb8; clear hb8
        go_wp2_with fail
        go_ret
        exact ⟨rfl, (HBEL.out.tr HB7.out).tr HB8.out⟩
      · have hbe : (b' == a') = false := by simp [hba]
        obtain rfl : y6 = old := by have := HY6.out; rw [if_neg (by simp [hba])] at this; exact this
        have hyy : (y6 == y6) = true := by simp
        go_wp2_with fail
        refine (right_any _ out _ (HPA4.out.below HB6.out)).mono ?_
        rintro e w7 ⟨rfl, hb7⟩
        rw [HGO.out.right]
        have HB7 := Lib.hid hb7; clear hb7
        go_wp2_with fail
        refine (awake_any _).mono ?_
        rintro e w8 ⟨rfl, hb8⟩
        have HB8 := Lib.hid hb8; clear hb8
        go_wp2_with fail
        go_ret
        exact ⟨rfl, (HBEL.out.tr HB7.out).tr HB8.out⟩
    · skip
      by_cases hba : b' = a'
      · have hbe : (b' == a') = true := by simp [hba]
        clear hba
        go_wp2_with fail
        refine (right_any _ out _ (HPA4.out.below HB6.out)).mono ?_
        rintro e w7 ⟨rfl, hb7⟩
        rw [HGO.out.right]
        have HB7 := Lib.hid hb7; clear hb7
        go_wp2_with fail
        refine (awake_any _).mono ?_
        rintro e w8 ⟨rfl, hb8⟩
        have HB8 := Lib.hid hb8; clear hb8
        go_wp2_with fail
        go_ret
        exact ⟨rfl, (HBEL.out.tr HB7.out).tr HB8.out⟩
      · have hbe : (b' == a') = false := by simp [hba]
        obtain rfl : y6 = old := by have := HY6.out; rw [if_neg (by simp [hba])] at this; exact this
        have hyy : (y6 == y6) = true := by simp
        go_wp2_with fail
        refine (right_any _ out _ (HPA4.out.below HB6.out)).mono ?_
        rintro e w7 ⟨rfl, hb7⟩
        rw [HGO.out.right]
        have HB7 := Lib.hid hb7; clear hb7
        go_wp2_with fail
        refine (awake_any _).mono ?_
        rintro e w8 ⟨rfl, hb8⟩
        have HB8 := Lib.hid hb8; clear hb8
        go_wp2_with fail
        go_ret
        exact ⟨rfl, (HBEL.out.tr HB7.out).tr HB8.out⟩
  | false =>
    cases still
    · skip
      by_cases hba : b' = a'
      · have hbe : (b' == a') = true := by simp [hba]
        clear hba
        go_wp2_with fail
        refine (right_any _ out _ (HPA4.out.below HB6.out)).mono ?_
        rintro e w7 ⟨rfl, hb7⟩
        rw [HGO.out.right]
        have HB7 := Lib.hid hb7; clear hb7
        go_wp2_with fail
        refine (awake_any _).mono ?_
        rintro e w8 ⟨rfl, hb8⟩
        have HB8 := Lib.hid hb8; clear hb8
        go_wp2_with fail
        go_ret
        exact ⟨rfl, (HBEL.out.tr HB7.out).tr HB8.out⟩
      · have hbe : (b' == a') = false := by simp [hba]
        obtain rfl : y6 = old := by have := HY6.out; rw [if_neg (by simp [hba])] at this; exact this
        have hyy : (y6 == y6) = true := by simp
        go_wp2_with fail
        refine (right_any _ out _ (HPA4.out.below HB6.out)).mono ?_
        rintro e w7 ⟨rfl, hb7⟩
        rw [HGO.out.right]
        have HB7 := Lib.hid hb7; clear hb7
        go_wp2_with fail
        refine (awake_any _).mono ?_
        rintro e w8 ⟨rfl, hb8⟩
        have HB8 := Lib.hid hb8; clear hb8
        go_wp2_with fail
        go_ret
        exact ⟨rfl, (HBEL.out.tr HB7.out).tr HB8.out⟩
    · skip
      by_cases hba : b' = a'
      · have hbe : (b' == a') = true := by simp [hba]
        clear hba
        go_wp2_with fail
        refine (right_any _ out _ (HPA4.out.below HB6.out)).mono ?_
        rintro e w7 ⟨rfl, hb7⟩
        rw [HGO.out.right]
        have HB7 := Lib.hid hb7; clear hb7
        go_wp2_with fail
        refine (awake_any _).mono ?_
        rintro e w8 ⟨rfl, hb8⟩
        have HB8 := Lib.hid hb8; clear hb8
        go_wp2_with fail
        go_ret
        exact ⟨rfl, (HBEL.out.tr HB7.out).tr HB8.out⟩
      · have hbe : (b' == a') = false := by simp [hba]
        obtain rfl : y6 = old := by have := HY6.out; rw [if_neg (by simp [hba])] at this; exact this
        have hyy : (y6 == y6) = true := by simp
        go_wp2_with fail
        refine (right_any _ out _ (HPA4.out.below HB6.out)).mono ?_
        rintro e w7 ⟨rfl, hb7⟩
        rw [HGO.out.right]
        have HB7 := Lib.hid hb7; clear hb7
        go_wp2_with fail
        refine (awake_any _).mono ?_
        rintro e w8 ⟨rfl, hb8⟩
        have HB8 := Lib.hid hb8; clear hb8
        go_wp2_with fail
        go_ret
        exact ⟨rfl, (HBEL.out.tr HB7.out).tr HB8.out⟩
end Go.Proofs.Ytgkenbjpmondeaa
