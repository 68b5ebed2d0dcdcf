/- Proved: debuggerlaw25.MemoryReads returns true for every input. -/
import Derived.Test.YtgkenbjpmondeaaSome
import Derived.Test.YtgkenbjpmondeaaLawOf
namespace Go.Proofs.Ytgkenbjpmondeaa
open Go.RowKit

theorem Good.only {ps : List Pg} (hg : Good ps) {a : Int} {i j : Nat} {x y : Int} {ws zs : List Int} (hi : ps[i]? = some (x, ws)) (hj : ps[j]? = some (y, zs)) (h1 : x ≤ a) (h2 : a - x < 64) (h3 : y ≤ a) (h4 : a - y < 64) : i = j ∧ x = y ∧ ws = zs := by
  have e1 := hg.2.1 i x ws hi
  have e2 := hg.2.1 j y zs hj
  rcases Nat.lt_trichotomy i j with h | h | h
  · have := hg.2.2 i j x y ws zs h hi hj; omega
  · subst h
    rw [hi] at hj
    simp at hj
    exact ⟨rfl, hj⟩
  · have := hg.2.2 j i y x zs ws h hj hi; omega
theorem WordP.unique {ps : List Pg} (hg : Good ps) {a x y : Int} {ok ok' : Bool} (h : WordP ps a x ok) (h' : WordP ps a y ok') : ok = ok' ∧ x = y := by
  rcases h with ⟨rfl, rfl, hn⟩ | ⟨rfl, i, n, b, ws, hi, hab, hn64, hx⟩ <;> rcases h' with ⟨rfl, rfl, hn'⟩ | ⟨rfl, j, m, c, zs, hj, hac, hm64, hy⟩
  · exact ⟨rfl, rfl⟩
  · exact absurd ⟨by omega, by omega⟩ (hn j c zs hj)
  · exact absurd ⟨by omega, by omega⟩ (hn' i b ws hi)
  · obtain ⟨rfl, rfl, rfl⟩ := hg.only (a := a) hi hj (by omega) (by omega) (by omega) (by omega)
    obtain rfl : n = m := by omega
    rw [hx] at hy
    exact ⟨rfl, by simpa using hy⟩

set_option maxRecDepth 100000 in
set_option maxHeartbeats 4000000 in
theorem memoryReads_any (v : Value) (l : List Int) (addr n : Int) (w : World) (h : IntsAt w v l) (ha : I64 addr) (hn : I64 n) : Calls Try.prog 5 #[v, .int .i64 addr, .int .i64 n] w (EqPost true w) := by
  have HI := Lib.hid h; have HA := Lib.hid ha; have HN := Lib.hid hn
  clear h ha hn
  have hgood := (take_good l 8 (Nat.le_refl _)).1.good
  have HG := Lib.hid hgood; clear hgood
  go_enter Try.func5, Try.ntmps5
  go_wp2_with fail
  refine (some_any _ l _ HI.out).mono ?_
  rintro e w1 ⟨v1, us, rfl, hrow, -, hb1⟩
  obtain ⟨V, vc, rfl⟩ := hrow.shape
  have HP1 := Lib.hid hrow.at_; have HB1 := Lib.hid hb1
  clear hrow hb1
  obtain ⟨ps, hps⟩ : ∃ ps, ps = someL l := ⟨_, rfl⟩
  rw [← hps] at HP1 ⊢
  have HGP : Hid (Good ps) := by rw [hps]; exact HG
  clear hps HG
  obtain ⟨a', ha'⟩ : ∃ a', a' = addr % 768 := ⟨_, rfl⟩
  obtain ⟨n', hn'⟩ : ∃ n', n' = n % 129 := ⟨_, rfl⟩
  have ha0 : 0 ≤ a' := by omega
  have ha1 : a' < 768 := by omega
  have hn0 : 0 ≤ n' := by omega
  have hn1 : n' < 129 := by omega
  have HA' := Lib.hid ha'; have HN' := Lib.hid hn'
  clear ha' hn'
  go_wp2_with fail
  refine (mod_any addr 768 _ HA.out (by omega) (by omega)).mono ?_
  rintro e w' ⟨rfl, rfl⟩
  rw [← HA'.out]
  go_wp2_with fail
  refine (mod_any n 129 _ HN.out (by omega) (by omega)).mono ?_
  rintro e w' ⟨rfl, rfl⟩
  rw [← HN'.out]
  go_wp2_with fail
  refine (read_any _ ps a' n' _ (HP1.out.below ((Below.refl _ _).al _)) HGP.out (by unfold I64; omega) (by unfold I64; omega)).mono ?_
  rintro e w2 ⟨pv, xs, at_, rfl, hxs, hrd, hb2⟩
  obtain ⟨X, xc, rfl⟩ := hxs.shape
  have hbx := (Box.new w1 24 (.slice V ps.length vc)).below hb2 (by simp)
  have hB2 := (HB1.out.al (.cells #[.slice V ps.length vc] 24)).tr hb2
  have hxl : xs.length ≤ 128 := by
    have hc : clampN n' ≤ 128 := by unfold clampN; omega
    rcases hrd.2 with h | h <;> omega
  have hcn : (clampN n' : Int) = n' := by unfold clampN; omega
  have hall : ∀ (j : Nat) (x : Int), xs[j]? = some x → WordP ps (a' + j) x true := fun j x hx => by
    have hj := (List.getElem?_eq_some_iff.1 hx).1
    have := hrd.1 j x hx
    rwa [show wrap64 (a' + j) = a' + j by unfold wrap64; omega] at this
  have hend : ((xs.length : Int) = n' ∧ at_ = -1) ∨ ((xs.length : Int) < n' ∧ at_ = a' + xs.length ∧ WordP ps (a' + xs.length) 0 false) := by
    rcases hrd.2 with ⟨h1, h2⟩ | ⟨h1, h2, h3⟩
    · exact .inl ⟨by omega, h2⟩
    · have e : wrap64 (a' + xs.length) = a' + xs.length := by unfold wrap64; omega
      rw [e] at h2
      exact .inr ⟨by omega, h2, by rw [← h2]; exact h3⟩
  have HP2 := Lib.hid (HP1.out.below (((Below.refl _ _).al _).tr hb2))
  have HXS := Lib.hid hxs.at_; have HBX := Lib.hid hbx; have HB2 := Lib.hid hB2; have HALL := Lib.hid hall; have HEND := Lib.hid hend
  clear hxs hrd hb2 hbx hB2 hcn hall hend
  go_wp2_with fail
  go_loopw [10] (fun s wr => ∃ (k : Nat), s = .int .i64 (k : Int) ∧ k ≤ xs.length ∧ Below w2.heap.size w2 wr) (fun s _ => xs.length - (intOf s).toNat)
  case atStart => exact ⟨0, rfl, by omega, Below.refl _ _⟩
  case round =>
    obtain ⟨k, rfl, hk, hb⟩ := hrel
    have hbm := HBX.out.below hb HBX.out.lt
    have cm := hbm.cell
    have HBM := Lib.hid hbm; have HB := Lib.hid hb
    clear hbm hb
    by_cases hlt : k < xs.length
    · obtain ⟨x, hx⟩ := get_of_lt hlt
      obtain ⟨X', xc', e1, _, _, hcell⟩ := HXS.out
      obtain ⟨rfl, rfl⟩ : X = X' ∧ xc = xc' := by simpa using e1
      obtain ⟨b, off, rfl, hi, p1⟩ := hcell k x hx
      clear hcell e1
      have HX := Lib.hid hx; have HP := Lib.hid p1
      clear hx p1
      go_wp2_with fail
      refine (word_any _ ps (a' + k) _ (HP2.out.below HB.out) HGP.out (by unfold I64; omega)).mono ?_
      rintro e w3 ⟨y, ok, rfl, hw, _, hb3⟩
      obtain ⟨rfl, rfl⟩ := hw.unique HGP.out (HALL.out k x HX.out)
      have d1 := cell_below (HB.out.tr hb3) HP.out
      have HB3 := Lib.hid hb3
      have hyy : (y != y) = false := by simp
      clear hw hb3
      go_wp2_with fail
      go_roundw
      case rel => exact ⟨k + 1, by go_num, by omega, HB.out.tr HB3.out⟩
      case measure => simp [intOf]; omega
    · have hkk : k = xs.length := by omega
      have HKK := Lib.hid hkk; clear hkk
      go_wp2_with fail
      refine (word_any _ ps (a' + xs.length) _ (HP2.out.below HB.out) HGP.out (by unfold I64; omega)).mono ?_
      rintro e w3 ⟨y, ok, rfl, hw, _, hb3⟩
      have HB3 := Lib.hid hb3; have HW := Lib.hid hw
      clear hw hb3
      have hbel : Below w.heap.size w w3 := (HB2.out.tr HB.out).tr HB3.out
      have HBEL := Lib.hid hbel; clear hbel
      rcases HEND.out with ⟨h1, rfl⟩ | ⟨h1, h2, h3⟩
      · have hln : ((xs.length : Int) == n') = true := by simp [h1]
        have H1 := Lib.hid h1; clear h1
        cases ok
        all_goals
          go_wp2_with fail
          refine (awake_any _).mono ?_
          rintro e w4 ⟨rfl, hb4⟩
          have HB4 := Lib.hid hb4; clear hb4
          go_wp2_with fail
          go_ret
          exact ⟨rfl, HBEL.out.tr HB4.out⟩
      · obtain ⟨rfl, -⟩ := HW.out.unique HGP.out h3
        have hne : (at_ == -1) = false := by simp; omega
        have heq : (at_ == a' + (xs.length : Int)) = true := by simp [h2]
        have H2 := Lib.hid h2; clear h2 h3
        go_wp2_with fail
        refine (awake_any _).mono ?_
        rintro e w4 ⟨rfl, hb4⟩
        have HB4 := Lib.hid hb4; clear hb4
        go_wp2_with fail
        go_ret
        exact ⟨rfl, HBEL.out.tr HB4.out⟩
end Go.Proofs.Ytgkenbjpmondeaa
