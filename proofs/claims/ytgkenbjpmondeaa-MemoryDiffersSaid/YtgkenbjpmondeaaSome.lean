/- Proved: debuggerlaw25.some makes the pages of the first eight numbers, in order. -/
import Derived.Test.YtgkenbjpmondeaaSomeL
namespace Go.Proofs.Ytgkenbjpmondeaa
open Go.RowKit

def SomePost (l : List Int) (w : World) (e : Ending) (w' : World) : Prop := ∃ v us, e = .returned (.agg #[v]) ∧ PagesRow w' w.heap.size v (someL l) us ∧ GeAll (someL l) us w.heap.size ∧ Below w.heap.size w w'

theorem hb1_at {w w' : World} {g : Nat} {t : TypeId} {v : Value} (h : Box w g t v) (hb : Below w.heap.size w w') : Box w' g t v := h.below hb h.lt
theorem zcell {w : World} {r j : Nat} (h : w.heap[r]? = some (.cells zeros64.toArray 3 (0, 0))) (hj : j < 64) : w.cell? ⟨r, j, none⟩ = some (.int .i64 0) := by
  rw [cell_of_row w r j _ 3 (0, 0) h, zeros64, List.getElem?_toArray, List.getElem?_replicate, if_pos hj]
theorem set_row {w : World} {B r j : Nat} {x : Int} {ws : List Int} (h : w.heap[r]? = some (.cells zeros64.toArray 3 (0, 0))) (hj : j < 64) (hx : I64 x) (hB : B ≤ r) (hw : (List.replicate 64 (0 : Int)).set j x = ws) :
    IntsOwn (w.setCell ⟨r, j, none⟩ (.int .i64 x)).drew B (.slice (some ⟨r, 0, none⟩) 64 64) ws := by
  subst hw
  have hh : (w.setCell ⟨r, j, none⟩ (.int .i64 x)).heap[r]? = some (.cells (((List.replicate 64 (0 : Int)).set j x).map (Value.int .i64)).toArray 3 (0, 0)) := by
    simp only [World.setCell, Array.getElem?_modify, h, if_true]
    simp [zeros64, List.map_set]
  refine ⟨⟨by simp, .inr ⟨r, 64, _, by simp, hB, hh, by simp, by simp [maxLen], by simp, by simp [List.take_of_length_le]⟩⟩, fun y hy => ?_⟩
  rcases List.mem_or_eq_of_mem_set hy with hy | rfl
  · obtain ⟨_, rfl⟩ := List.mem_replicate.1 hy
    unfold I64; omega
  · exact hx
theorem two_new1 (w : World) (cs : Array Value) (a b : Value) : Box2 ((w.alloc (.cells cs 3)).alloc (.cells #[a, b] 31)) (w.heap.size + 1) 31 a b ∧ ((w.alloc (.cells cs 3)).alloc (.cells #[a, b] 31)).heap[w.heap.size]? = some (.cells cs 3 (0, 0)) ∧ Below w.heap.size w ((w.alloc (.cells cs 3)).alloc (.cells #[a, b] 31)) := by
  refine ⟨?_, ?_, ((Below.refl _ _).al _).al _⟩
  · have := Box2.new (w.alloc (.cells cs 3)) 31 a b
    simpa using this
  · rw [Below.heap_alloc _ _ _ (by simp)]; exact heap_alloc_new w _
theorem two_new2 (w : World) (cs : Array Value) (a b : Value) : Box2 ((w.alloc (.cells #[a, b] 31)).alloc (.cells cs 3)) w.heap.size 31 a b ∧ ((w.alloc (.cells #[a, b] 31)).alloc (.cells cs 3)).heap[w.heap.size + 1]? = some (.cells cs 3 (0, 0)) ∧ Below w.heap.size w ((w.alloc (.cells #[a, b] 31)).alloc (.cells cs 3)) := by
  refine ⟨(Box2.new w 31 a b).alloc _, ?_, ((Below.refl _ _).al _).al _⟩
  have := heap_alloc_new (w.alloc (.cells #[a, b] 31)) (.cells cs 3)
  simpa using this

set_option maxRecDepth 100000 in
set_option maxHeartbeats 4000000 in
theorem some_any (v : Value) (l : List Int) (w : World) (h : IntsAt w v l) : Calls Try.prog 12 #[v] w (SomePost l w) := by
  obtain ⟨A, cap, rfl, hcap, hm, hc⟩ := h
  have Hc := Lib.hid hc; clear hc
  have hm' := hm.1
  clear hm
  have hmk := mk64
  go_enter Try.func12, Try.ntmps12
  go_wp2_with fail
  go_loopw [4] (fun s wr => ∃ (k : Nat) (us : List Value) (v : Value), s = .int .i64 (k : Int) ∧ k ≤ 8 ∧ k ≤ l.length ∧ Box wr w.heap.size 24 (.slice none 0 0) ∧ Box wr (w.heap.size + 1) 24 v ∧
      PagesRow wr (w.heap.size + 2) v ((l.take k).foldl someStep []) us ∧ GeAll ((l.take k).foldl someStep []) us (w.heap.size + 2) ∧ Below w.heap.size w wr) (fun s _ => 8 - (intOf s).toNat)
  case atStart =>
    refine ⟨0, [], .slice none 0 0, rfl, by omega, by omega, ?_, ?_, PagesRow.nil _ _, fun k x ws u a => by simp at a, ((Below.refl _ _).al _).al _⟩
    · exact (Box.new _ _ _).alloc _
    · have hx := Box.new (w.alloc (.cells #[.slice none 0 0] 24)) 24 (.slice none 0 0)
      simpa using hx
  case round =>
    obtain ⟨k, us, v, rfl, hk8, hkl, hb0, hb1, hrow, hge, hb⟩ := hrel
    obtain ⟨V, vc, rfl⟩ := hrow.shape
    obtain ⟨ps, hps⟩ : ∃ ps, ps = (l.take k).foldl someStep [] := ⟨_, rfl⟩
    have hgd := take_good l k hk8
    rw [← hps] at hb1 hrow hge hgd
    have c0 := hb0.cell; have f0 := hb0.frozen; have c1 := hb1.cell; have f1 := hb1.frozen; have l1 := hb1.lt
    have hbs := hb.size
    have HPS := Lib.hid hps; have HB0 := Lib.hid hb0; have HB1 := Lib.hid hb1; have HROW := Lib.hid hrow; have HGE := Lib.hid hge; have HB := Lib.hid hb; have HGD := Lib.hid hgd
    clear hps hb0 hb1 hrow hge hb hgd
    by_cases hgo : k < l.length ∧ k < 8
    · obtain ⟨hlt, hlt8⟩ := hgo
      obtain ⟨x, hx⟩ := get_of_lt hlt
      obtain ⟨b, off, rfl, hi, p1⟩ := Hc.out k x hx
      have d1 := cell_below HB.out p1
      have hbl := World.block_lt_of_cell? _ _ p1
      simp only at hbl
      have HX := Lib.hid hx; have HI := Lib.hid hi
      clear hx hi p1
      have hk0 : (0 : Int) ≤ (k : Int) := Int.natCast_nonneg _
      have hk1 : (k : Int) < (l.length : Int) := by omega
      have hm1 : 0 ≤ x % 12 := by omega
      have hm2 : x % 12 < 12 := by omega
      have hw64 : IntKind.i64.wrap (x % 12 * 64) = x % 12 * 64 := IntWalk.i64_in _ (by omega)
      go_wp2_with fail
      go_cut [5] (fun s5 wx => ∃ (g r : Nat), s5 = .pointer (some ⟨g, 0, none⟩) ∧ Box2 wx g 31 (.int .i64 (x % 12 * 64)) (.slice (some ⟨r, 0, none⟩) 64 64) ∧ wx.heap[r]? = some (.cells zeros64.toArray 3 (0, 0)) ∧ wr.heap.size ≤ g ∧ wr.heap.size ≤ r ∧ g ≠ r ∧ Below wr.heap.size wr wx)
      case first =>
        go_region_held3 (fun w' => w'.cell? ⟨b, off + k, none⟩ = some (.int .i64 x)) (go_keep)
          (first | (go_at_call 13; refine (mod_any x 12 _ HI.out (by omega) (by omega)).mono ?_; rintro e w' ⟨rfl, rfl⟩))
        all_goals go_wp2_with fail
        all_goals go_meet
        all_goals first
          | exact ⟨wr.heap.size + 1, wr.heap.size, rfl, (two_new1 wr zeros64.toArray (.int .i64 (x % 12 * 64)) (.slice (some ⟨wr.heap.size, 0, none⟩) 64 64)).1, (two_new1 wr _ _ _).2.1, by omega, by omega, by omega, (two_new1 wr _ _ _).2.2.drew⟩
          | exact ⟨wr.heap.size, wr.heap.size + 1, rfl, (two_new2 wr zeros64.toArray (.int .i64 (x % 12 * 64)) (.slice (some ⟨wr.heap.size + 1, 0, none⟩) 64 64)).1, (two_new2 wr _ _ _).2.1, by omega, by omega, by omega, (two_new2 wr _ _ _).2.2.drew⟩
      case rest =>
        clear hw64
        obtain ⟨g, r, rfl, hbx, hrr, hg1, hg2, hgr, hbw⟩ := hcut
        have e0 := hbx.cell0; have e1 := hbx.cell1
        have eb := cell_below hbw d1
        have em := hb1_at HB1.out hbw
        obtain ⟨j, hj7, hj⟩ : ∃ j : Nat, j < 7 ∧ x % 7 = (j : Int) := ⟨(x % 7).toNat, by omega, by omega⟩
        have hj0 : (0 : Int) ≤ (j : Int) := Int.natCast_nonneg _
        have hj64 : (j : Int) < 64 := by omega
        have er : wc.cell? ⟨r, j, none⟩ = some (.int .i64 0) := zcell hrr (by omega)
        have ef : wc.frozen? ⟨r, j, none⟩ = false := by simp [World.frozen?, hrr]
        have hws := hbw.size
        have HBX := Lib.hid hbx; have HRR := Lib.hid hrr; have HBW := Lib.hid hbw; have HJ := Lib.hid hj
        clear hbx hrr hbw hj d1
        go_wp2_with fail
        obtain ⟨S, eS⟩ : ∃ S : World → Prop, S = fun w' => w'.cell? ⟨g, 1, none⟩ = some (.slice (some ⟨r, 0, none⟩) 64 64) ∧ w'.cell? ⟨b, off + k, none⟩ = some (.int .i64 x) := ⟨_, rfl⟩
        have mkS : ∀ w' : World, w'.cell? ⟨g, 1, none⟩ = some (.slice (some ⟨r, 0, none⟩) 64 64) → w'.cell? ⟨b, off + k, none⟩ = some (.int .i64 x) → S w' := fun w' g0 g1 => by rw [eS]; exact ⟨g0, g1⟩
        have sS := mkS _ e1 eb
        have ne_ : Nonempty (Lex.HW S) := ⟨⟨_, sS⟩⟩
        have exS : ∀ w' : World, S w' → w'.cell? ⟨g, 1, none⟩ = some (.slice (some ⟨r, 0, none⟩) 64 64) ∧ w'.cell? ⟨b, off + k, none⟩ = some (.int .i64 x) := fun w' h => by rw [eS] at h; exact h
        have q0_ : ∀ p : Lex.HW S, p.w.cell? ⟨g, 1, none⟩ = some (.slice (some ⟨r, 0, none⟩) 64 64) := fun p => (exS _ p.ok).1
        have q1_ : ∀ p : Lex.HW S, p.w.cell? ⟨b, off + k, none⟩ = some (.int .i64 x) := fun p => (exS _ p.ok).2
        clear eS exS
        have MKS := Lib.hid mkS; clear mkS sS
        refine Lex.wp_region_lex S 12 [([0, 1, 2, 3, 4, 5, 7, 8, 9, 10], some 6), ([11], some 12)] (by kernel_rfl) (by kernel_rfl) (fun _ _ d _ _ h => by cases d <;> exact h) (MKS.out _ e1 eb) ?_
        refine Lex.lexW_some (os := ?_) (o := ?_) (by simp only [List.filterMap_cons, List.filterMap_nil, List.getElem?_toArray, List.getElem?_cons_zero, List.getElem?_cons_succ]; rfl) (by simp only [List.getElem?_toArray, List.getElem?_cons_zero, List.getElem?_cons_succ]; rfl) ?_
        repeat (first | go_big_quiet_step (fail) | quiet_step (fail))
        refine wpQuiet_nil ?_
        intro K hK
        have HK := Lib.hid hK; clear hK
        go_wp2_with fail
        refine (mod_any x 7 _ HI.out (by omega) (by omega)).mono ?_
        rintro e w' ⟨rfl, rfl⟩
        rw [HJ.out]
        go_wp2_with fail
        refine HK.out _ _ (fun _ => MKS.out _ e1 eb) ?_
        clear HK K
        refine Lex.lexW_some (os := ?_) (o := ?_) (by simp only [List.filterMap_cons, List.filterMap_nil, List.getElem?_toArray, List.getElem?_cons_zero, List.getElem?_cons_succ]; rfl) (by simp only [List.getElem?_toArray, List.getElem?_cons_zero, List.getElem?_cons_succ]; rfl) ?_
        repeat (first | go_big_quiet_step (fail) | quiet_step (fail))
        refine wpQuiet_nil ?_
        intro K hK
        have HK := Lib.hid hK; clear hK
        go_wp2_with fail
        refine HK.out _ _ (fun h => absurd h (by decide)) (Lex.lexW_nil ?_)
        clear HK K
        clear S ne_ q0_ q1_ MKS e0 e1 eb er ef
        have hem := (em.far (p := ⟨r, j, none⟩) (by simp; omega) (.int .i64 x)).drew
        have he0 := ((hb1_at HB0.out HBW.out).far (p := ⟨r, j, none⟩) (by simp; omega) (.int .i64 x)).drew
        have hex : Box2 (wc.setCell ⟨r, j, none⟩ (.int .i64 x)).drew g 31 (.int .i64 (x % 12 * 64)) (.slice (some ⟨r, 0, none⟩) 64 64) := (Below.heap_setCell wc ⟨r, j, none⟩ (.int .i64 x) g (by simpa using hgr)).trans HBX.out
        have how : IntsAt (wc.setCell ⟨r, j, none⟩ (.int .i64 x)).drew (.slice (some ⟨r, 0, none⟩) 64 64) (numPage x).2 := (set_row HRR.out (by omega) HI.out (by omega) (by simp [numPage, HJ.out])).at_
        have hbw : Below wr.heap.size wr (wc.setCell ⟨r, j, none⟩ (.int .i64 x)).drew := (HBW.out.setCell (by simpa using hg2) _).drew
        generalize (wc.setCell ⟨r, j, none⟩ (.int .i64 x)).drew = w5 at hem he0 hex how hbw ⊢
        have cm := hem.cell; have x0 := hex.cell0; have x1 := hex.cell1
        have HEM := Lib.hid hem; have HE0 := Lib.hid he0; have HOW := Lib.hid how; have HBW5 := Lib.hid hbw
        clear hem he0 hex how hbw em
        go_wp2_with fail
        refine (add_any _ _ ps (numPage x).1 (numPage x).2 _ (HROW.out.at_.below HBW5.out) HGD.out.1.small (by have := HGD.out.2; omega) (by unfold numPage I64; simp; omega) HOW.out (numPage_ok x)).mono ?_
        rintro e w6 ⟨v6, us6, out, rfl, hadd, hrow6, hge6, hb6⟩
        have heq := hadd.eq
        obtain ⟨V6, vc6, rfl⟩ := hrow6.shape
        have hem6 := hb1_at HEM.out hb6
        have hb66 := HBW5.out.tr hb6
        have cm6 := hem6.cell; have fm6 := hem6.frozen; have lm6 := hem6.lt
        have hs5 := HBW5.out.size
        have HEM6 := Lib.hid hem6; have HROW6 := Lib.hid hrow6; have HGE6 := Lib.hid hge6; have HB6 := Lib.hid hb66; have HEQ := Lib.hid heq; have HE6 := Lib.hid (hb1_at HE0.out hb6)
        clear hem6 hrow6 hge6 hb6 hb66 heq hadd cm x0 x1
        go_wp2_with fail
        go_roundw
        case rel =>
          have hfold : (l.take (k + 1)).foldl someStep [] = out := by rw [fold_snoc HX.out, HEQ.out, ← HPS.out]; rfl
          refine ⟨k + 1, us6, _, by go_num, by omega, by omega, HE6.out.far (by simp) _, HEM6.out.set_ _, ?_, ?_, ?_⟩
          · rw [hfold]
            exact (HROW6.out.base (by omega)).setCell (by simp) (OffAll.of_ge (N := w.heap.size + 2) (lo := 0) (fun k x ws u a b g e => by have := HGE6.out k x ws u a b g e; omega) (Nat.le_refl _)) (by simp) (by simp)
          · rw [hfold]
            exact HGE6.out.mono (by omega)
          · exact (HB.out.tr HB6.out).setCell (by simp) _
        case measure => simp [intOf]; omega
    · have htk : l.take k = l.take 8 := by
        rcases Nat.lt_or_ge k l.length with h | h
        · obtain rfl : k = 8 := by omega
          rfl
        · rw [List.take_of_length_le h, List.take_of_length_le (by omega)]
      have HTK := Lib.hid htk; clear htk
      by_cases hlt : k < l.length
      · have h8 : 8 ≤ k := by omega
        clear hgo
        go_wp2_with fail
        have hcS := (HB0.out.set_ (.slice V ps.length vc)).cell
        refine bodyPost_ret (v := .agg #[.slice V ps.length vc]) ?_ rfl ?_
        · simp [results, Try.results12, go_sem, hcS]
        have hps : ps = someL l := by rw [HPS.out, HTK.out]; rfl
        refine ⟨_, us, rfl, ?_, ?_, HB.out.setCell (by simp) _⟩
        · rw [← hps]
          exact (HROW.out.setCell (p := ⟨w.heap.size, 0, none⟩) (by simp) (OffAll.of_ge (N := w.heap.size + 2) (lo := 0) HGE.out (Nat.le_refl _)) (by simp) (by simp)).base (by omega)
        · rw [← hps]
          exact HGE.out.mono (by omega)
      · clear hgo
        go_wp2_with fail
        have hcS := (HB0.out.set_ (.slice V ps.length vc)).cell
        refine bodyPost_ret (v := .agg #[.slice V ps.length vc]) ?_ rfl ?_
        · simp [results, Try.results12, go_sem, hcS]
        have hps : ps = someL l := by rw [HPS.out, HTK.out]; rfl
        refine ⟨_, us, rfl, ?_, ?_, HB.out.setCell (by simp) _⟩
        · rw [← hps]
          exact (HROW.out.setCell (p := ⟨w.heap.size, 0, none⟩) (by simp) (OffAll.of_ge (N := w.heap.size + 2) (lo := 0) HGE.out (Nat.le_refl _)) (by simp) (by simp)).base (by omega)
        · rw [← hps]
          exact HGE.out.mono (by omega)
end Go.Proofs.Ytgkenbjpmondeaa
