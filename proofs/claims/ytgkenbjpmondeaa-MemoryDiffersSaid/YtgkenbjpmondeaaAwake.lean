/- Proved: debuggerlaw25.awake returns true. -/
import Derived.Test.YtgkenbjpmondeaaOf
import Derived.Test.YtgkenbjpmondeaaRead
import Derived.Test.YtgkenbjpmondeaaRight
import Derived.Test.YtgkenbjpmondeaaInts
namespace Go.Proofs.Ytgkenbjpmondeaa
open Go.RowKit

theorem Good.right {ps : List Pg} (h : Good ps) : rightB ps = true := by
  symm
  refine rightB_yes h.1 fun j hj => ?_
  obtain ⟨⟨x, ws⟩, hx⟩ := get_of_lt hj
  have hg := h.2.1 j x ws hx
  rcases Nat.eq_zero_or_pos j with rfl | hj0
  · exact okAt_zero hx hg
  · obtain ⟨⟨y, zs⟩, hy⟩ := get_of_lt (show j - 1 < ps.length by omega)
    rw [okAt_next hx hy (by omega) hg]
    simpa using h.2.2 (j - 1) j y x zs ws (by omega) hy hx

theorem ofL_get {ws : List Int} {j : Nat} {x : Int} {zs : List Int} (h : (ofL ws)[j]? = some (x, zs)) : j < (ws.length + 63) / 64 ∧ x = (64 * j : Nat) ∧ zs = (pageOf ws j).2 := by
  unfold ofL at h
  rw [List.getElem?_map] at h
  obtain ⟨i, hi, he⟩ := Option.map_eq_some_iff.1 h
  obtain ⟨hl, hi2⟩ := List.getElem?_eq_some_iff.1 hi
  simp at hl hi2
  subst hi2
  refine ⟨hl, ?_, ?_⟩
  · exact (congrArg Prod.fst he).symm
  · exact (congrArg Prod.snd he).symm

theorem ofL_good {ws : List Int} (h : ws.length ≤ 1048576) : Good (ofL ws) := by
  refine ⟨by unfold ofL; simp; omega, fun j x zs hx => ?_, fun i j x y ws' zs hij hx hy => ?_⟩
  · obtain ⟨h1, rfl, rfl⟩ := ofL_get hx
    refine ⟨by omega, by omega, by omega, pageOf_len _ _⟩
  · obtain ⟨h1, rfl, rfl⟩ := ofL_get hx
    obtain ⟨h2, rfl, rfl⟩ := ofL_get hy
    omega

def mem78 : List Pg := ofL [7, 8]
theorem mem78_get : mem78[0]? = some (0, (pageOf [7, 8] 0).2) := by decide +kernel
theorem mem78_only {j : Nat} {x : Int} {zs : List Int} (h : mem78[j]? = some (x, zs)) : j = 0 ∧ x = 0 ∧ zs = (pageOf [7, 8] 0).2 := by
  obtain ⟨h1, h2, h3⟩ := ofL_get h
  have : j = 0 := by simp at h1; omega
  subst this
  exact ⟨rfl, by simpa using h2, h3⟩
theorem mem78_word {a x : Int} {ok : Bool} (h0 : 0 ≤ a) (h1 : a < 64) (h : WordP mem78 a x ok) : ok = true ∧ (pageOf [7, 8] 0).2[a.toNat]? = some x := by
  rcases h with ⟨rfl, rfl, hno⟩ | ⟨rfl, j, n, y, ws, hj, ha, hn, hx⟩
  · exact absurd ⟨by omega, by omega⟩ (hno 0 0 _ mem78_get)
  · obtain ⟨rfl, rfl, rfl⟩ := mem78_only hj
    refine ⟨rfl, ?_⟩
    rw [show a.toNat = n by omega]; exact hx
theorem mem78_out {a x : Int} {ok : Bool} (h1 : 64 ≤ a) (h : WordP mem78 a x ok) : ok = false := by
  rcases h with ⟨rfl, rfl, hno⟩ | ⟨rfl, j, n, y, ws, hj, ha, hn, hx⟩
  · rfl
  · obtain ⟨rfl, rfl, rfl⟩ := mem78_only hj
    omega
theorem mem78_read {xs : List Int} {at_ : Int} (h : ReadP mem78 62 5 xs at_) : xs.length = 2 ∧ at_ = 64 := by
  obtain ⟨hall, hend⟩ := h
  have h5 : clampN 5 = 5 := by decide
  have hle : xs.length ≤ 2 := by
    rcases Nat.lt_or_ge 2 xs.length with hlt | hge
    · obtain ⟨x, hx⟩ := get_of_lt hlt
      have := mem78_out (by unfold wrap64; omega) (hall 2 x hx)
      cases this
    · exact hge
  have e : ∀ n : Nat, n ≤ 2 → wrap64 (62 + n) = 62 + n := fun n hn => by unfold wrap64; omega
  rcases hend with ⟨h1, _⟩ | ⟨h1, h2, h3⟩
  · rw [h5] at h1; omega
  · rw [e _ hle] at h2
    rcases Nat.lt_or_ge xs.length 2 with hlt | hge
    · have := (mem78_word (by omega) (by omega) h3).1
      cases this
    · exact ⟨by omega, by omega⟩

set_option maxHeartbeats 1000000 in
theorem awake_any (w : World) : Calls Try.prog 11 #[] w (EqPost true w) := by
  have h78 : IntsAt (w.alloc (.cells #[.int .i64 7, .int .i64 8] 3)) (.slice (some ⟨w.heap.size, 0, none⟩) 2 2) [7, 8] := by
    refine ⟨_, 2, rfl, by simp, ⟨by omega, by simp⟩, fun k x hx => ⟨w.heap.size, 0, rfl, ?_⟩⟩
    match k, hx with
    | 0, hx => simp at hx; subst hx; exact ⟨by unfold I64; omega, by simp [go_sem]⟩
    | 1, hx => simp at hx; subst hx; exact ⟨by unfold I64; omega, by simp [go_sem]⟩
  have H78 := Lib.hid h78; clear h78
  have hgood : Good mem78 := ofL_good (by simp)
  have HG := Lib.hid hgood; clear hgood
  go_enter Try.func11, Try.ntmps11
  go_wp2_with fail
  refine (of_any _ [7, 8] _ H78.out (by simp)).mono ?_
  rintro e w1 ⟨v, us, rfl, hrow, hb⟩
  obtain ⟨V, vc, rfl⟩ := hrow.shape
  have hpa : PagesAt w1 (.slice V (ofL [7, 8]).length vc) mem78 := hrow.at_
  rw [show (ofL [7, 8]).length = 1 by decide] at hpa ⊢
  have hb1 : Below w.heap.size w w1 := ((Below.refl _ _).al _).tr hb
  have hs1 := hb1.size
  have HPA := Lib.hid hpa; have HB1 := Lib.hid hb1
  clear hrow hb hpa hb1
  go_wp2_with fail
  refine (word_any _ mem78 1 _ (HPA.out.below ((Below.refl _ _).al _)) HG.out (by unfold I64; omega)).mono ?_
  rintro e w2 ⟨x, ok, rfl, hw, _, hb2⟩
  obtain ⟨rfl, hx⟩ := mem78_word (by omega) (by omega) hw
  obtain rfl : x = 8 := by
    have h8 : (pageOf [7, 8] 0).2[(1 : Int).toNat]? = some 8 := by decide +kernel
    rw [h8] at hx; simpa using hx.symm
  have hbox2 := (Box.new w1 24 (.slice V 1 vc)).below hb2 (by simp)
  have hc2 := hbox2.cell
  have hB2 := HB1.out.tr (((Below.refl _ _).al _).tr hb2)
  have hpa2 := HPA.out.below (((Below.refl _ _).al _).tr hb2)
  have HX2 := Lib.hid hbox2; have HB2 := Lib.hid hB2; have HPA2 := Lib.hid hpa2
  clear hw hx hb2 hbox2 hB2 hpa2
  go_wp2_with fail
  refine (word_any _ mem78 64 _ HPA2.out HG.out (by unfold I64; omega)).mono ?_
  rintro e w3 ⟨x, ok, rfl, hw, _, hb3⟩
  obtain rfl := mem78_out (by omega) hw
  have hbox3 := HX2.out.below hb3 HX2.out.lt
  have hc3 := hbox3.cell
  have hB3 := HB2.out.tr hb3
  have hpa3 := HPA2.out.below hb3
  have HX3 := Lib.hid hbox3; have HB3 := Lib.hid hB3; have HPA3 := Lib.hid hpa3
  clear hw hb3 hbox3 hB3 hpa3 hc2
  go_wp2_with fail
  refine (read_any _ mem78 62 5 _ HPA3.out HG.out (by unfold I64; omega) (by unfold I64; omega)).mono ?_
  rintro e w4 ⟨l, xs, at_, rfl, hl, hr, hb4⟩
  obtain ⟨hlen, rfl⟩ := mem78_read hr
  obtain ⟨L, lc, rfl⟩ := hl.shape
  rw [hlen]
  have hbox4 := HX3.out.below hb4 HX3.out.lt
  have hc4 := hbox4.cell
  have hB4 := HB3.out.tr hb4
  have hpa4 := HPA3.out.below hb4
  have HX4 := Lib.hid hbox4; have HB4 := Lib.hid hB4; have HPA4 := Lib.hid hpa4
  clear hl hr hb4 hbox4 hB4 hpa4 hc3 hlen
  go_wp2_with fail
  refine (right_any _ mem78 _ HPA4.out).mono ?_
  rintro e w5 ⟨rfl, hb5⟩
  rw [HG.out.right]
  go_wp2_with fail
  go_ret
  exact ⟨rfl, HB4.out.tr hb5⟩
end Go.Proofs.Ytgkenbjpmondeaa
