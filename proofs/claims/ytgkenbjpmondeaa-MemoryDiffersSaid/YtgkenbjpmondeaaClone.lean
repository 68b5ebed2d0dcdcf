/- Proved: slices.Clone of ints and memory.clone make deep copies. -/
import Derived.Test.YtgkenbjpmondeaaAdd
namespace Go.Proofs.Ytgkenbjpmondeaa
open Go.RowKit

def ClonePost (ys : List Int) (w : World) (e : Ending) (w' : World) : Prop := ∃ v, e = .returned v ∧ IntsOwn w' w.heap.size v ys ∧ Below w.heap.size w w'

set_option maxHeartbeats 1000000 in
theorem sclone_any (u : Value) (ys : List Int) (w : World) (h : IntsAt w u ys) (hl : ys.length ≤ 1000000) : Calls Try.prog 39 #[u] w (ClonePost ys w) := by
  have HU := Lib.hid h
  obtain ⟨A, cap, rfl, hc1, hm, hc⟩ := h
  rcases A with _ | ad
  · have hy : ys = [] := by
      cases ys with
      | nil => rfl
      | cons y ys => obtain ⟨b, off, h, _⟩ := hc 0 y rfl; cases h
    obtain rfl := hm.2 rfl
    clear hc hm
    have hn := fun (w : World) => Lib.run_eql_slice_nil (P := Try.prog) w
    subst hy
    go_enter Try.func39, Try.ntmps39
    go_wp2_with fail
    go_ret
    exact ⟨_, rfl, IntsOwn.nil _ _, Below.refl _ _⟩
  · clear hc
    have hn := fun (w : World) => Lib.run_eql_slice_nil (P := Try.prog) w
    clear hm
    go_enter Try.func39, Try.ntmps39
    go_wp2_with (at_builtin; refine app_ints _ rfl (.tmp 5) (.tmp 6) rfl w.heap.size (.slice (some ⟨w.heap.size, 0, none⟩) 0 0) [] rfl (IntsOwn.empty (heap_alloc_new w _) (Nat.le_refl _)) (.slice (some ad) ys.length cap) ys rfl (HU.out.below ((Below.refl _ _).al _)) (by simp; omega) (by simp) ?_; intro v2 w2 ho2 hg2 hat2; rw [List.nil_append] at ho2; have HO2 := Lib.hid ho2; have HG2 := Lib.hid hg2; clear ho2 hg2 hat2)
    go_ret
    exact ⟨v2, rfl, HO2.out, ((Below.refl _ _).al _).grown HG2.out (by simp) (fun g hg => by simp [Value.ownBlock] at hg; omega)⟩

/-- a row of pages that is being filled, one page behind the other -/
def Filling (w : World) (B g : Nat) (ps : List Pg) (us : List Value) : Prop :=
  us.length ≤ ps.length ∧ B ≤ g ∧ (∃ cur : Array Value, w.heap[g]? = some (.cells cur 31 (0, 0)) ∧ cur.size = ps.length * 2 ∧
    ∀ (j : Nat) (x : Int) (ws : List Int) (u : Value), ps[j]? = some (x, ws) → us[j]? = some u → cur[j * 2]? = some (.int .i64 x) ∧ cur[j * 2 + 1]? = some u) ∧
  (∀ (j : Nat) (x : Int) (ws : List Int) (u : Value), ps[j]? = some (x, ws) → us[j]? = some u → I64 x ∧ IntsOwn w B u ws ∧ (u.ownBlock = none ∨ u.ownBlock ≠ some g)) ∧
  ∀ (i j : Nat) (u u' : Value), i < j → us[i]? = some u → us[j]? = some u' → u.ownBlock = none ∨ u.ownBlock ≠ u'.ownBlock

theorem Filling.start {w : World} {B g : Nat} {ps : List Pg} {cur : Array Value} (h : w.heap[g]? = some (.cells cur 31 (0, 0))) (hs : cur.size = ps.length * 2) (hB : B ≤ g) : Filling w B g ps [] :=
  ⟨by simp, hB, ⟨cur, h, hs, by simp⟩, by simp, by simp⟩

theorem heap_setCell_same {w : World} {g i : Nat} {t : TypeId} {cur : Array Value} {v : Value} (h : w.heap[g]? = some (.cells cur t (0, 0))) : (w.setCell ⟨g, i, none⟩ v).heap[g]? = some (.cells (cur.setIfInBounds i v) t (0, 0)) := by
  simp [World.setCell, Array.getElem?_modify, h]

theorem Filling.step {w w2 : World} {B g k : Nat} {ps : List Pg} {us : List Value} {x : Int} {ws : List Int} {u : Value} (h : Filling w B g ps us) (hk : us.length = k) (hx : ps[k]? = some (x, ws)) (hi : I64 x)
    (hb : Below w.heap.size w w2) (ho : IntsOwn w2 B u ws) (hu : ∀ b, u.ownBlock = some b → w.heap.size ≤ b) : Filling ((w2.setCell ⟨g, k * 2, none⟩ (.int .i64 x)).setCell ⟨g, k * 2 + 1, none⟩ u) B g ps (us ++ [u]) := by
  obtain ⟨hl, hB, ⟨cur, hcur, hsz, hcells⟩, hall, hpw⟩ := h
  have hkl := (List.getElem?_eq_some_iff.1 hx).1
  have hg : g < w.heap.size := (Array.getElem?_eq_some_iff.1 hcur).1
  have h2 : w2.heap[g]? = some (.cells cur 31 (0, 0)) := (hb.block g hg).trans hcur
  have h3 := heap_setCell_same (i := k * 2 + 1) (v := u) (heap_setCell_same (i := k * 2) (v := .int .i64 x) h2)
  have gr : w2.grownBy ((w2.setCell ⟨g, k * 2, none⟩ (.int .i64 x)).setCell ⟨g, k * 2 + 1, none⟩ u) (some g) :=
    ⟨rfl, rfl, rfl, by simp [World.setCell], fun i hi hne => by
      rw [Below.heap_setCell _ _ _ _ (fun e => hne (by rw [e])), Below.heap_setCell _ _ _ _ (fun e => hne (by rw [e]))]⟩
  have une : u.ownBlock = none ∨ u.ownBlock ≠ some g := by
    cases hu' : u.ownBlock with
    | none => exact .inl rfl
    | some b => right; intro e; injection e with e; have := hu b hu'; omega
  have last : ∀ (j : Nat) (u' : Value), (us ++ [u])[j]? = some u' → (j < us.length ∧ us[j]? = some u') ∨ (j = k ∧ u' = u) := fun j u' e => by
    rcases Nat.lt_or_ge j us.length with hj | hj
    · rw [List.getElem?_append_left hj] at e; exact .inl ⟨hj, e⟩
    · rw [List.getElem?_append_right hj] at e
      have e0 : j - us.length = 0 := by have := (List.getElem?_eq_some_iff.1 e).1; simp at this; omega
      rw [e0] at e
      exact .inr ⟨by omega, by simpa using e.symm⟩
  refine ⟨by simp; omega, hB, ⟨_, h3, by simp [hsz], fun j y zs u' hy e => ?_⟩, fun j y zs u' hy e => ?_, fun i j u1 u2 hij e1 e2 => ?_⟩
  · rcases last j u' e with ⟨hj, e⟩ | ⟨rfl, rfl⟩
    · obtain ⟨a, b⟩ := hcells j y zs u' hy e
      constructor
      · rw [Array.getElem?_setIfInBounds_ne (by omega), Array.getElem?_setIfInBounds_ne (by omega)]; exact a
      · rw [Array.getElem?_setIfInBounds_ne (by omega), Array.getElem?_setIfInBounds_ne (by omega)]; exact b
    · rw [hx] at hy
      simp at hy
      obtain ⟨rfl, rfl⟩ := hy
      constructor
      · rw [Array.getElem?_setIfInBounds_ne (by omega), Array.getElem?_setIfInBounds_self_of_lt (by omega)]
      · rw [Array.getElem?_setIfInBounds_self_of_lt (by simp; omega)]
  · rcases last j u' e with ⟨hj, e⟩ | ⟨rfl, rfl⟩
    · obtain ⟨a, b, c⟩ := hall j y zs u' hy e
      exact ⟨a, (b.below hb).keep gr c, c⟩
    · rw [hx] at hy
      simp at hy
      obtain ⟨rfl, rfl⟩ := hy
      exact ⟨hi, ho.keep gr une, une⟩
  · have hj := (List.getElem?_eq_some_iff.1 e2).1
    simp at hj
    rcases last i u1 e1 with ⟨hi1, e1'⟩ | ⟨rfl, rfl⟩
    · rcases last j u2 e2 with ⟨hj1, e2'⟩ | ⟨rfl, rfl⟩
      · exact hpw i j u1 u2 hij e1' e2'
      · obtain ⟨⟨y, zs⟩, hy⟩ := get_of_lt (show i < ps.length by omega)
        cases hu1 : u1.ownBlock with
        | none => exact .inl rfl
        | some b =>
          right
          intro e
          have := ((hall i y zs u1 hy e1').2.1.lt b hu1).2
          have := hu b e.symm
          omega
    · omega

theorem Filling.done {w : World} {B g c : Nat} {ps : List Pg} {us : List Value} (h : Filling w B g ps us) (hl : us.length = ps.length) (hc : c = ps.length) (hm : ps.length ≤ 1000000) : Deep w B (.slice (some ⟨g, 0, none⟩) ps.length c) ps us := by
  subst hc
  obtain ⟨_, hB, ⟨cur, hcur, hsz, hcells⟩, hall, hpw⟩ := h
  refine ⟨⟨hl, cur.toList, ⟨by simp [hsz], .inr ⟨g, ps.length, cur, rfl, hB, hcur, Nat.le_refl _, by simp [maxLen]; omega, hsz, by rw [List.take_of_length_le (by simp [hsz])]⟩⟩, fun k x ws hx => ?_⟩, fun k x ws u a b => ⟨(hall k x ws u a b).2.1, (hall k x ws u a b).2.2⟩, hpw⟩
  obtain ⟨u, hu⟩ := get_of_lt (show k < us.length by have := (List.getElem?_eq_some_iff.1 hx).1; omega)
  obtain ⟨a, b⟩ := hcells k x ws u hx hu
  obtain ⟨c, d, e⟩ := hall k x ws u hx hu
  refine ⟨c, by simpa using a, u, hu, by simpa using b, d.at_, fun _ => ?_⟩
  rcases e with e | e
  · rw [e]; simp [Value.ownBlock]
  · exact e

def pageCells (n : Nat) : Array Value := madeCells #[.int .i64 0, .slice none 0 0] (n * 2)
theorem pageCells_size (n : Nat) : (pageCells n).size = n * 2 := size_madeCells _ _
theorem mkPages (n : Nat) (hn : n ≤ 1000000) (w : World) : (Instr.makeSlice 22 (.int .i64 (n : Int)) (.int .i64 (n : Int))).run Try.prog w = .ok (.slice (some ⟨w.heap.size, 0, none⟩) n n) (w.alloc (.cells (pageCells n) 31)) := by
  obtain ⟨i0, hi0, hz0, hz1, hz2⟩ := info_parts page_info
  have hr := run_make (P := Try.prog) w 22 31 i0 (.agg #[.int .i64 0, .slice none 0 0]) Try.underlying22 hi0 hz0 .i64 .i64 n n (by omega) (by omega) (by rw [hz2]; omega) (by omega)
  simp only [Int.toNat_natCast, hz1] at hr
  exact hr

theorem Filling.cells {w w2 : World} {B g k : Nat} {ps : List Pg} {us : List Value} (h : Filling w B g ps us) (hb : Below w.heap.size w w2) (hk : k < ps.length) : (∃ a, w2.cell? ⟨g, k * 2, none⟩ = some a) ∧ (∃ b, w2.cell? ⟨g, k * 2 + 1, none⟩ = some b) ∧ w2.frozen? ⟨g, k * 2, none⟩ = false ∧ w2.frozen? ⟨g, k * 2 + 1, none⟩ = false ∧ g < w.heap.size := by
  obtain ⟨_, _, ⟨cur, hcur, hsz, _⟩, _⟩ := h
  have hg : g < w.heap.size := (Array.getElem?_eq_some_iff.1 hcur).1
  have h2 : w2.heap[g]? = some (.cells cur 31 (0, 0)) := (hb.block g hg).trans hcur
  refine ⟨⟨cur[k * 2]'(by omega), ?_⟩, ⟨cur[k * 2 + 1]'(by omega), ?_⟩, by simp [World.frozen?, h2], by simp [World.frozen?, h2], hg⟩
  · rw [cell_of_row w2 g _ cur 31 (0, 0) h2]; exact Array.getElem?_eq_getElem _
  · rw [cell_of_row w2 g _ cur 31 (0, 0) h2]; exact Array.getElem?_eq_getElem _

def CloneFull (ps : List Pg) (w : World) (e : Ending) (w' : World) : Prop :=
  ∃ g us, e = .returned (.agg #[.slice (some ⟨g, 0, none⟩) ps.length ps.length]) ∧ Deep w' w.heap.size (.slice (some ⟨g, 0, none⟩) ps.length ps.length) ps us ∧ Below w.heap.size w w'
set_option maxHeartbeats 2000000 in
theorem clone_full (v : Value) (ps : List Pg) (w : World) (h : PagesAt w v ps) (hs : Small ps) :
    Calls Try.prog 35 #[.agg #[v]] w (CloneFull ps w) := by
  obtain ⟨A, cap, rfl, hcap, hm, hc⟩ := h
  have Hc := Lib.hid hc; clear hc
  have hm' := hm.1
  clear hm
  have hl := hs.1
  have HS := Lib.hid hs; clear hs
  have hmk := mkPages ps.length hl
  go_enter Try.func35, Try.ntmps35
  go_wp2_with fail
  go_loopw [14] (fun s wr => ∃ (k : Nat) (us : List Value), s = .int .i64 (k : Int) ∧ k ≤ ps.length ∧ us.length = k ∧ Box wr (w.heap.size + 1) 24 (.slice none 0 0) ∧ Box wr (w.heap.size + 3) 24 (.slice (some ⟨w.heap.size + 2, 0, none⟩) ps.length ps.length) ∧
      Filling wr (w.heap.size + 2) (w.heap.size + 2) ps us ∧ Below w.heap.size w wr) (fun s _ => ps.length - (intOf s).toNat)
  case atStart =>
    have hrow : ((((w.alloc (.cells #[.slice A ps.length cap] 24)).alloc (.cells #[.slice none 0 0] 24)).alloc (.cells (pageCells ps.length) 31)).alloc (.cells #[.slice (some ⟨w.heap.size + 2, 0, none⟩) ps.length ps.length] 24)).heap[w.heap.size + 2]? = some (.cells (pageCells ps.length) 31 (0, 0)) := by
      rw [Below.heap_alloc _ _ _ (by simp)]
      have := heap_alloc_new ((w.alloc (.cells #[.slice A ps.length cap] 24)).alloc (.cells #[.slice none 0 0] 24)) (.cells (pageCells ps.length) 31)
      simpa using this
    refine ⟨0, [], rfl, by omega, rfl, ?_, ?_, Filling.start hrow (pageCells_size _) (Nat.le_refl _), ((((Below.refl _ _).al _).al _).al _).al _⟩
    · have hx := ((Box.new (w.alloc (.cells #[.slice A ps.length cap] 24)) 24 (.slice none 0 0)).alloc (.cells (pageCells ps.length) 31)).alloc (.cells #[.slice (some ⟨w.heap.size + 2, 0, none⟩) ps.length ps.length] 24)
      simpa using hx
    · have hx := Box.new (((w.alloc (.cells #[.slice A ps.length cap] 24)).alloc (.cells #[.slice none 0 0] 24)).alloc (.cells (pageCells ps.length) 31)) 24 (.slice (some ⟨w.heap.size + 2, 0, none⟩) ps.length ps.length)
      simpa using hx
  case round =>
    clear hmk
    obtain ⟨k, us, rfl, hk, hul, hb1, hb3, hfil, hb⟩ := hrel
    have c1 := hb1.cell; have f1 := hb1.frozen; have c3 := hb3.cell; have l3 := hb3.lt
    have HUL := Lib.hid hul; have HB1 := Lib.hid hb1; have HB3 := Lib.hid hb3; have HF := Lib.hid hfil; have HB := Lib.hid hb
    clear hul hb1 hb3 hfil hb
    by_cases hlt : k < ps.length
    · obtain ⟨⟨x, ws⟩, hx⟩ := get_of_lt hlt
      obtain ⟨b, off, u, rfl, hi, p1, p2, hu⟩ := Hc.out k x ws hx
      have d1 := cell_below HB.out p1; have d2 := cell_below HB.out p2
      have hbl := World.block_lt_of_cell? _ _ p1
      simp only at hbl
      have hbs := HB.out.size
      have HU := Lib.hid (hu.below HB.out); have HX := Lib.hid hx; have HI := Lib.hid hi
      obtain ⟨U, uc, rfl, -⟩ := hu
      clear hx p1 p2 hi
      have hk0 : (0 : Int) ≤ (k : Int) := Int.natCast_nonneg _
      have hk1 : (k : Int) < (ps.length : Int) := by omega
      go_wp2_with fail
      have hbp := Box2.new wr 31 (.int .i64 x) (.slice U ws.length uc)
      have hb4 : Below wr.heap.size wr (wr.alloc (.cells #[.int .i64 x, .slice U ws.length uc] 31)) := (Below.refl _ _).al _
      generalize wr.alloc (.cells #[.int .i64 x, .slice U ws.length uc] 31) = w4 at hbp hb4 ⊢
      have e3 := cell_below hb4 c3
      have e0 := hbp.cell0; have e1 := hbp.cell1
      have HB4 := Lib.hid hb4; clear hb4 hbp
      obtain ⟨S, eS⟩ : ∃ S : World → Prop, S = fun w' => w'.cell? ⟨w.heap.size + 3, 0, none⟩ = some (.slice (some ⟨w.heap.size + 2, 0, none⟩) ps.length ps.length) ∧ w'.cell? ⟨wr.heap.size, 0, none⟩ = some (.int .i64 x) ∧ w'.cell? ⟨wr.heap.size, 1, none⟩ = some (.slice U ws.length uc) := ⟨_, rfl⟩
      have mkS : ∀ w' : World, w'.cell? ⟨w.heap.size + 3, 0, none⟩ = some (.slice (some ⟨w.heap.size + 2, 0, none⟩) ps.length ps.length) → w'.cell? ⟨wr.heap.size, 0, none⟩ = some (.int .i64 x) → w'.cell? ⟨wr.heap.size, 1, none⟩ = some (.slice U ws.length uc) → S w' := fun w' g0 g1 g2 => by rw [eS]; exact ⟨g0, g1, g2⟩
      have sS := mkS _ e3 e0 e1
      have ne_ : Nonempty (Lex.HW S) := ⟨⟨_, sS⟩⟩
      have exS : ∀ w' : World, S w' → w'.cell? ⟨w.heap.size + 3, 0, none⟩ = some (.slice (some ⟨w.heap.size + 2, 0, none⟩) ps.length ps.length) ∧ w'.cell? ⟨wr.heap.size, 0, none⟩ = some (.int .i64 x) ∧ w'.cell? ⟨wr.heap.size, 1, none⟩ = some (.slice U ws.length uc) := fun w' h => by rw [eS] at h; exact h
      have q0_ : ∀ p : Lex.HW S, p.w.cell? ⟨w.heap.size + 3, 0, none⟩ = some (.slice (some ⟨w.heap.size + 2, 0, none⟩) ps.length ps.length) := fun p => (exS _ p.ok).1
      have q1_ : ∀ p : Lex.HW S, p.w.cell? ⟨wr.heap.size, 0, none⟩ = some (.int .i64 x) := fun p => (exS _ p.ok).2.1
      have q2_ : ∀ p : Lex.HW S, p.w.cell? ⟨wr.heap.size, 1, none⟩ = some (.slice U ws.length uc) := fun p => (exS _ p.ok).2.2
      clear eS exS
      have MKS := Lib.hid mkS; clear mkS sS
      refine Lex.wp_region_lex S 10 [([0, 1, 2, 3, 4, 5, 6], some 7), ([8, 9], some 10)] (by kernel_rfl) (by kernel_rfl) (fun _ _ d _ _ h => by cases d <;> exact h) (MKS.out _ e3 e0 e1) ?_
      refine Lex.lexW_some (os := ?_) (o := ?_) (by simp only [List.filterMap_cons, List.filterMap_nil, List.getElem?_toArray, List.getElem?_cons_zero, List.getElem?_cons_succ]; rfl) (by simp only [List.getElem?_toArray, List.getElem?_cons_zero, List.getElem?_cons_succ]; rfl) ?_
      repeat (first | go_big_quiet_step (fail) | quiet_step (fail))
      refine wpQuiet_nil ?_
      intro K hK
      have HK := Lib.hid hK; clear hK
      go_wp2_with fail
      refine (sclone_any _ ws _ (HU.out.below HB4.out.drew) (HS.out.2 k x ws HX.out)).mono ?_
      rintro e w5 ⟨v5, rfl, ho5, hb5⟩
      obtain ⟨U5, c5, rfl⟩ := ho5.shape
      have hb45 : Below w4.heap.size w4 w5 := ((Below.refl _ _).drew).tr hb5
      have hbw : Below wr.heap.size wr w5 := HB4.out.tr hb45
      obtain ⟨⟨ca, hca⟩, ⟨cb, hcb⟩, hfa, hfb, hgl⟩ := HF.out.cells hbw hlt
      have hs4 := HB4.out.size
      have hs5 := hb45.size
      have g3 := cell_below hb45 e3; have g0 := cell_below hb45 e0; have g1 := cell_below hb45 e1
      have HO5 := Lib.hid ho5; have HBW := Lib.hid hbw
      clear ho5 hb5 hb45 hbw
      go_wp2_with fail
      refine HK.out _ _ (fun _ => MKS.out _ g3 g0 g1) ?_
      clear HK K
      refine Lex.lexW_some (os := ?_) (o := ?_) (by simp only [List.filterMap_cons, List.filterMap_nil, List.getElem?_toArray, List.getElem?_cons_zero, List.getElem?_cons_succ]; rfl) (by simp only [List.getElem?_toArray, List.getElem?_cons_zero, List.getElem?_cons_succ]; rfl) ?_
      repeat (first | go_big_quiet_step (fail) | quiet_step (fail))
      refine wpQuiet_nil ?_
      intro K hK
      have HK := Lib.hid hK; clear hK
      go_wp2_with fail
      refine HK.out _ _ (fun h => absurd h (by decide)) (Lex.lexW_nil ?_)
      clear HK K
      go_wp2_with fail
      go_roundw
      case rel =>
        have hst := HF.out.step HUL.out HX.out HI.out HBW.out (HO5.out.base (B' := w.heap.size + 2) (by simp; omega)) (fun g hg => by have := (HO5.out.lt g hg).1; simp at this; omega)
        exact ⟨k + 1, us ++ [.slice U5 ws.length c5], by go_num, by omega, by simp [HUL.out], ((HB1.out.below HBW.out (by omega)).far (by simp) _).far (by simp) _, ((HB3.out.below HBW.out (by omega)).far (by simp) _).far (by simp) _, hst, ((HB.out.tr HBW.out).setCell (by simp) _).setCell (by simp) _⟩
      case measure => simp [intOf]; omega
    · go_wp2_with fail
      have hcS := (HB1.out.set_ (.slice (some ⟨w.heap.size + 2, 0, none⟩) ps.length ps.length)).cell
      refine bodyPost_ret (v := .agg #[.slice (some ⟨w.heap.size + 2, 0, none⟩) ps.length ps.length]) ?_ rfl ?_
      · simp [results, Try.results35, go_sem, hcS]
      have hd := (HF.out.done (by rw [HUL.out]; omega) rfl hl).setCell (p := ⟨w.heap.size + 1, 0, none⟩) (x := .slice (some ⟨w.heap.size + 2, 0, none⟩) ps.length ps.length) (by simp)
      exact ⟨_, us, rfl, hd.base (by omega), HB.out.setCell (by simp) _⟩
theorem clone_any (v : Value) (ps : List Pg) (w : World) (h : PagesAt w v ps) (hs : Small ps) :
    Calls Try.prog 35 #[.agg #[v]] w (CopyPost ps w) :=
  (clone_full v ps w h hs).mono fun _ _ ⟨g, us, h1, h2, h3⟩ => ⟨_, us, h1, h2, h3⟩
end Go.Proofs.Ytgkenbjpmondeaa
