/- Proved: memory.Without returns the pages with another base, copied. -/
import Derived.Test.YtgkenbjpmondeaaClone
namespace Go.Proofs.Ytgkenbjpmondeaa
open Go.RowKit

theorem three_start (w : World) (A D E : Value) : Box (((w.alloc (.cells #[A] 24)).alloc (.cells #[D] 24)).alloc (.cells #[E] 24)) w.heap.size 24 A ∧ Box (((w.alloc (.cells #[A] 24)).alloc (.cells #[D] 24)).alloc (.cells #[E] 24)) (w.heap.size + 1) 24 D ∧ Box (((w.alloc (.cells #[A] 24)).alloc (.cells #[D] 24)).alloc (.cells #[E] 24)) (w.heap.size + 2) 24 E := by
  refine ⟨((Box.new _ _ _).alloc _).alloc _, ?_, ?_⟩
  · have := (Box.new (w.alloc (.cells #[A] 24)) 24 D).alloc (.cells #[E] 24)
    simpa using this
  · have := Box.new ((w.alloc (.cells #[A] 24)).alloc (.cells #[D] 24)) 24 E
    simpa using this

def WithoutMPost (ps : List Pg) (w : World) (e : Ending) (w' : World) : Prop := ∃ v us, e = .returned (.agg #[v]) ∧ Deep w' w.heap.size v ps us ∧ Below w.heap.size w w'

set_option maxHeartbeats 2000000 in
theorem mwithout_any (v : Value) (ps : List Pg) (base : Int) (w : World) (h : PagesAt w v ps) (hs : Small ps) :
    Calls Try.prog 28 #[.agg #[v], .int .i64 base] w (WithoutMPost (fil base ps) w) := by
  obtain ⟨A, cap, rfl, hcap, hm, hc⟩ := h
  have Hc := Lib.hid hc; clear hc
  have hm' := hm.1
  clear hm
  have hl := hs.1
  have HS := Lib.hid hs; clear hs
  obtain ⟨s0, s1, s2⟩ := three_start w (.slice A ps.length cap) (.slice none 0 0) (.slice none 0 0)
  have S0 := Lib.hid s0; have S1 := Lib.hid s1; have S2 := Lib.hid s2
  clear s0 s1 s2
  go_enter Try.func28, Try.ntmps28
  go_wp2_with fail
  go_loopw [11] (fun s wr => ∃ (k : Nat) (us : List Value) (v : Value), s = .int .i64 (k : Int) ∧ k ≤ ps.length ∧ Box wr (w.heap.size + 1) 24 (.slice none 0 0) ∧ Box wr (w.heap.size + 2) 24 v ∧
      Deep wr (w.heap.size + 3) v (fil base (ps.take k)) us ∧ Below w.heap.size w wr) (fun s _ => ps.length - (intOf s).toNat)
  case atStart =>
    exact ⟨0, [], .slice none 0 0, rfl, by omega, S1.out, S2.out, Deep.nil _ _, (((Below.refl _ _).al _).al _).al _⟩
  case round =>
    obtain ⟨k, us, v, rfl, hk, hb1, hb2, hdeep, hb⟩ := hrel
    have hrow := hdeep.1
    obtain ⟨V, vc, rfl⟩ := hrow.shape
    have hfl : (fil base (ps.take k)).length ≤ ps.length := by have := fil_len base (ps.take k); simp at this; omega
    obtain ⟨fs, hfs⟩ : ∃ fs, fs = fil base (ps.take k) := ⟨_, rfl⟩
    rw [← hfs] at hb2 hdeep hrow hfl
    have HFS := Lib.hid hfs; clear hfs
    have c1 := hb1.cell; have c2 := hb2.cell; have f1 := hb1.frozen; have f2 := hb2.frozen; have l2 := hb2.lt
    have HB1 := Lib.hid hb1; have HB2 := Lib.hid hb2; have HD := Lib.hid hdeep; have HROW := Lib.hid hrow; have HB := Lib.hid hb
    clear hb1 hb2 hdeep hrow hb
    by_cases hlt : k < ps.length
    · obtain ⟨⟨x, ws⟩, hx⟩ := get_of_lt hlt
      obtain ⟨b, off, u, rfl, hi, p1, p2, hu⟩ := Hc.out k x ws hx
      obtain ⟨U, uc, rfl, -, -, -⟩ := id hu
      have d1 := cell_below HB.out p1; have d2 := cell_below HB.out p2
      have hbl := World.block_lt_of_cell? _ _ p1
      simp only at hbl
      have hbs := HB.out.size
      have hur := hu.below HB.out
      have HX := Lib.hid hx; have HU := Lib.hid hur
      clear hx p1 p2 hu hur
      have hk0 : (0 : Int) ≤ (k : Int) := Int.natCast_nonneg _
      have hk1 : (k : Int) < (ps.length : Int) := by omega
      cases hxb : (x != base) with
      | false =>
        go_wp2_with fail
        go_roundw
        case rel =>
          exact ⟨k + 1, us, _, by go_num, by omega, HB1.out.alloc _, HB2.out.alloc _, by rw [fil_snoc_out HX.out hxb, ← HFS.out]; exact HD.out.below ((Below.refl _ _).al _), HB.out.al _⟩
        case measure => simp [intOf]; omega
      | true =>
        go_wp2_with fail
        have g7 : (wr.alloc (.cells #[.int .i64 x, .slice U ws.length uc] 31)).cell? ⟨wr.heap.size, 0, none⟩ = some (.int .i64 x) := (Box2.new _ _ _ _).cell0
        have g8 : (wr.alloc (.cells #[.int .i64 x, .slice U ws.length uc] 31)).cell? ⟨wr.heap.size, 1, none⟩ = some (.slice U ws.length uc) := (Box2.new _ _ _ _).cell1
        have g2 : (wr.alloc (.cells #[.int .i64 x, .slice U ws.length uc] 31)).cell? ⟨w.heap.size + 2, 0, none⟩ = some (.slice V fs.length vc) := (HB2.out.alloc _).cell
        obtain ⟨S, eS⟩ : ∃ S : World → Prop, S = fun w' => w'.cell? ⟨w.heap.size + 2, 0, none⟩ = some (.slice V fs.length vc) ∧ w'.cell? ⟨wr.heap.size, 0, none⟩ = some (.int .i64 x) ∧ w'.cell? ⟨wr.heap.size, 1, none⟩ = some (.slice U ws.length uc) := ⟨_, rfl⟩
        have mkS : ∀ w' : World, w'.cell? ⟨w.heap.size + 2, 0, none⟩ = some (.slice V fs.length vc) → w'.cell? ⟨wr.heap.size, 0, none⟩ = some (.int .i64 x) → w'.cell? ⟨wr.heap.size, 1, none⟩ = some (.slice U ws.length uc) → S w' := fun w' g0 g1 g2 => by rw [eS]; exact ⟨g0, g1, g2⟩
        have sS := mkS _ g2 g7 g8
        have ne_ : Nonempty (Lex.HW S) := ⟨⟨_, sS⟩⟩
        have exS : ∀ w' : World, S w' → w'.cell? ⟨w.heap.size + 2, 0, none⟩ = some (.slice V fs.length vc) ∧ w'.cell? ⟨wr.heap.size, 0, none⟩ = some (.int .i64 x) ∧ w'.cell? ⟨wr.heap.size, 1, none⟩ = some (.slice U ws.length uc) := fun w' h => by rw [eS] at h; exact h
        have q0_ : ∀ p : Lex.HW S, p.w.cell? ⟨w.heap.size + 2, 0, none⟩ = some (.slice V fs.length vc) := fun p => (exS _ p.ok).1
        have q1_ : ∀ p : Lex.HW S, p.w.cell? ⟨wr.heap.size, 0, none⟩ = some (.int .i64 x) := fun p => (exS _ p.ok).2.1
        have q2_ : ∀ p : Lex.HW S, p.w.cell? ⟨wr.heap.size, 1, none⟩ = some (.slice U ws.length uc) := fun p => (exS _ p.ok).2.2
        clear eS exS
        have MKS := Lib.hid mkS; clear mkS sS
        refine Lex.wp_region_lex S 11 [([0, 1, 2, 3, 4, 5], some 6), ([7], some 8), ([], some 9), ([10], some 11)] (by kernel_rfl) (by kernel_rfl) (fun _ _ d _ _ h => by cases d <;> exact h) (MKS.out _ g2 g7 g8) ?_
        refine Lex.lexW_some (os := ?_) (o := ?_) (by simp only [List.filterMap_cons, List.filterMap_nil, List.getElem?_toArray, List.getElem?_cons_zero, List.getElem?_cons_succ]; rfl) (by simp only [List.getElem?_toArray, List.getElem?_cons_zero, List.getElem?_cons_succ]; rfl) ?_
        repeat (first | go_big_quiet_step (fail) | quiet_step (fail))
        refine wpQuiet_nil ?_
        intro K hK
        have HK := Lib.hid hK; clear hK
        go_wp2_with fail
        refine (sclone_any _ ws _ (HU.out.below (((Below.refl _ _).al _).drew)) (HS.out.2 k x ws HX.out)).mono ?_
        rintro e w4 ⟨v4, rfl, ho4, hb4⟩
        obtain ⟨R4, c4, rfl⟩ := ho4.shape
        have hbw : Below (wr.alloc (.cells #[.int .i64 x, .slice U ws.length uc] 31)).heap.size (wr.alloc (.cells #[.int .i64 x, .slice U ws.length uc] 31)) w4 := ((Below.refl _ _).drew).tr hb4
        have hbw0 : Below wr.heap.size wr w4 := ((Below.refl _ _).al _).tr hbw
        have HO4 := Lib.hid ho4; have HBW := Lib.hid hbw; have HBW0 := Lib.hid hbw0
        clear ho4 hb4 hbw hbw0
        go_wp2_with fail
        refine HK.out _ _ (fun _ => MKS.out _ (cell_below HBW.out g2) (cell_below HBW.out g7) (cell_below HBW.out g8)) ?_
        clear HK K
        refine Lex.lexW_some (os := ?_) (o := ?_) (by simp only [List.filterMap_cons, List.filterMap_nil, List.getElem?_toArray, List.getElem?_cons_zero, List.getElem?_cons_succ]; rfl) (by simp only [List.getElem?_toArray, List.getElem?_cons_zero, List.getElem?_cons_succ]; rfl) ?_
        repeat (first | go_big_quiet_step (fail) | quiet_step (fail))
        refine wpQuiet_nil ?_
        intro K hK
        have HK := Lib.hid hK; clear hK
        go_wp2_with fail
        have hA : Below w4.heap.size w4 (w4.alloc (.cells #[.int .i64 x, .slice R4 ws.length c4] 31)) := (Below.refl _ _).al _
        refine HK.out _ _ (fun _ => MKS.out _ (cell_below hA (cell_below HBW.out g2)) (cell_below hA (cell_below HBW.out g7)) (cell_below hA (cell_below HBW.out g8))) ?_
        clear HK K
        clear hA
        refine Lex.lexW_some (os := ?_) (o := ?_) (by simp only [List.filterMap_nil]; rfl) (by simp only [List.getElem?_toArray, List.getElem?_cons_zero, List.getElem?_cons_succ]; rfl) ?_
        repeat (first | go_big_quiet_step (fail) | quiet_step (fail))
        refine wpQuiet_nil ?_
        intro K hK
        have HK := Lib.hid hK; clear hK
        refine app_page _ rfl (.tmp 20) (.tmp 27) rfl (w.heap.size + 3) (.slice V fs.length vc) fs us rfl ((HROW.out.below HBW0.out).below ((Below.refl _ _).al _)) w4.heap.size x (.slice R4 ws.length c4) ws rfl (by exact (Box2.new _ _ _ _).cell0) (by exact (Box2.new _ _ _ _).cell1) hi (HO4.out.at_.below ((Below.refl _ _).al _)) ?_ (by omega) (by have := HBW0.out.size; simp; omega) ?_
        · intro hn0 e0
          obtain ⟨b0, hb0, _⟩ := HO4.out.at_.lt hn0
          rw [hb0] at e0
          have h1 := HROW.out.lt b0 e0.symm
          have h2 := (HO4.out.lt b0 hb0).1
          simp at h2
          omega
        intro v5 w5 ho5 hg5 hat5
        obtain ⟨V5, L5, c5, hv5⟩ : ∃ V L c, v5 = .slice V L c := by obtain ⟨V, c, h⟩ := ho5.shape; exact ⟨V, _, c, h⟩
        subst hv5
        have hbx5 : Box w5 (w.heap.size + 2) 24 (.slice V fs.length vc) := ((HB2.out.below HBW0.out l2).alloc _).keep hg5 (HROW.out.ne_ (by omega)).symm
        have hb15 : Box w5 (w.heap.size + 1) 24 (.slice none 0 0) := ((HB1.out.below HBW0.out (by omega)).alloc _).keep hg5 (HROW.out.ne_ (by omega)).symm
        have hc5 := hbx5.cell; have hf5 := hbx5.frozen; have hl5 := hbx5.lt
        have g75 : w5.cell? ⟨wr.heap.size, 0, none⟩ = some (.int .i64 x) := hg5.cell (cell_below ((Below.refl _ _).al _) (cell_below HBW.out g7)) (fun e => by have := (HROW.out.lt _ e.symm).2; simp at this)
        have g85 : w5.cell? ⟨wr.heap.size, 1, none⟩ = some (.slice U ws.length uc) := hg5.cell (cell_below ((Below.refl _ _).al _) (cell_below HBW.out g8)) (fun e => by have := (HROW.out.lt _ e.symm).2; simp at this)
        have hd5 := HD.out.snoc HBW0.out (HO4.out.base (B' := w.heap.size + 3) (by simp; omega)) (fun g hg => by have := (HO4.out.lt g hg).1; simp at this; omega) ((Below.refl _ _).al _) ho5 hg5 hat5
        have hB5 : Below w.heap.size w w5 := ((HB.out.tr HBW0.out).al _).grown hg5 (by have := HBW0.out.size; simp; omega) (fun g hg => by have := (HROW.out.lt g hg).1; omega)
        have HBX5 := Lib.hid hbx5; have HB15 := Lib.hid hb15; have HD5 := Lib.hid hd5; have HB5 := Lib.hid hB5
        clear hbx5 hb15 hd5 hB5 ho5 hg5 hat5
        refine HK.out _ _ (fun _ => MKS.out _ hc5 g75 g85) ?_
        clear HK K
        clear g75 g85 g7 g8 g2
        refine Lex.lexW_some (os := ?_) (o := ?_) (by simp only [List.filterMap_cons, List.filterMap_nil, List.getElem?_toArray, List.getElem?_cons_zero, List.getElem?_cons_succ]; rfl) (by simp only [List.getElem?_toArray, List.getElem?_cons_zero, List.getElem?_cons_succ]; rfl) ?_
        repeat (first | go_big_quiet_step (fail) | quiet_step (fail))
        refine wpQuiet_nil ?_
        intro K hK
        have HK := Lib.hid hK; clear hK
        go_wp2_with fail
        refine HK.out _ _ (fun h => absurd h (by decide)) (Lex.lexW_nil ?_)
        clear HK K
        go_wp2_with fail
        go_roundw
        case rel =>
          have hd6 := HD5.out.setCell (p := ⟨w.heap.size + 2, 0, none⟩) (x := .slice V5 L5 c5) (by simp)
          have hfe : fil base (ps.take (k + 1)) = fs ++ [(x, ws)] := by rw [fil_snoc_in HX.out hxb, ← HFS.out]
          rw [← hfe] at hd6
          exact ⟨k + 1, _, _, by go_num, by omega, HB15.out.far (by simp) _, HBX5.out.set_ _, hd6, HB5.out.setCell (by simp <;> omega) _⟩
        case measure => simp [intOf]; omega
    · go_wp2_with fail
      have hcS := (HB1.out.set_ (.slice V fs.length vc)).cell
      refine bodyPost_ret (v := .agg #[.slice V fs.length vc]) ?_ rfl ?_
      · simp [results, Try.results28, go_sem, hcS]
      have hd := HD.out.setCell (p := ⟨w.heap.size + 1, 0, none⟩) (x := .slice V fs.length vc) (by simp)
      have hfe : fs = fil base ps := by rw [HFS.out, List.take_of_length_le (by omega)]
      rw [hfe] at hd
      rw [hfe]
      exact ⟨_, us, rfl, hd.base (by omega), HB.out.setCell (by simp) _⟩
end Go.Proofs.Ytgkenbjpmondeaa
