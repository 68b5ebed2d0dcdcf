import Derived.Test.YtgkenbjpmondeaaOf
import Derived.Test.YtgkenbjpmondeaaLex
import Derived.Test.YtgkenbjpmondeaaRead
namespace Go.Proofs.Ytgkenbjpmondeaa
open Go.RowKit

theorem take_snoc {α : Type} {l : List α} {k : Nat} {x : α} (h : l[k]? = some x) : l.take k ++ [x] = l.take (k + 1) := by
  rw [List.take_add_one, h]; rfl
/-- a row that has just been made is not the older row -/
theorem off_new {w : World} {B : Nat} {v u : Value} {ps : List Pg} {us : List Value} {xs : List Int} {g g' : Nat} (h : PagesRow w B v ps us) (hu : u.ownBlock = some g ∨ u.ownBlock = some g') (hg : w.heap.size ≤ g) (hg' : w.heap.size ≤ g') : Off u xs v.ownBlock := fun _ e => by
  rcases hu with hu | hu <;> (have := h.lt _ (e.symm.trans hu); omega)
theorem PagesRow.neC {w : World} {B : Nat} {v : Value} {ps : List Pg} {us : List Value} (h : PagesRow w B v ps us) {g o : Nat} (hg : g < B) : some (⟨g, o, none⟩ : Addr).block ≠ v.ownBlock := (h.ne_ hg).symm
def Small (ps : List Pg) : Prop := ps.length ≤ 1000000 ∧ ∀ (k : Nat) (x : Int) (ws : List Int), ps[k]? = some (x, ws) → ws.length ≤ 1000000
/-- a deep copy: every row in a block of its own -/
def Deep (w : World) (B : Nat) (v : Value) (ps : List Pg) (us : List Value) : Prop :=
  PagesRow w B v ps us ∧ (∀ (k : Nat) (x : Int) (ws : List Int) (u : Value), ps[k]? = some (x, ws) → us[k]? = some u → IntsOwn w B u ws ∧ (u.ownBlock = none ∨ u.ownBlock ≠ v.ownBlock)) ∧
  ∀ (i j : Nat) (u u' : Value), i < j → us[i]? = some u → us[j]? = some u' → u.ownBlock = none ∨ u.ownBlock ≠ u'.ownBlock
theorem Deep.nil (w : World) (B : Nat) : Deep w B (.slice none 0 0) [] [] := ⟨PagesRow.nil _ _, by simp, by simp⟩
theorem IntsOwn.lt {w : World} {B : Nat} {v : Value} {xs : List Int} (h : IntsOwn w B v xs) : ∀ k, v.ownBlock = some k → B ≤ k ∧ k < w.heap.size := h.1.lt
theorem Deep.setCell {w : World} {B : Nat} {v : Value} {ps : List Pg} {us : List Value} {p : Addr} {x : Value} (h : Deep w B v ps us) (hp : p.block < B) : Deep (w.setCell p x) B v ps us := by
  obtain ⟨h1, h2, h3⟩ := h
  have ne : ∀ (k : Nat) (y : Int) (ws : List Int) (u : Value), ps[k]? = some (y, ws) → us[k]? = some u → u.ownBlock = none ∨ u.ownBlock ≠ some p.block := fun k y ws u a b => by
    cases hu : u.ownBlock with
    | none => exact .inl rfl
    | some g => right; intro e; injection e with e; subst e; have := ((h2 k y ws u a b).1.lt _ hu).1; omega
  refine ⟨h1.keep (grownBy_setCell w p x) (.inr fun e => by have := h1.lt _ e; omega) (fun k y ws u a b hn => ?_), fun k y ws u a b => ⟨(h2 k y ws u a b).1.keep (grownBy_setCell w p x) (ne k y ws u a b), (h2 k y ws u a b).2⟩, h3⟩
  rcases ne k y ws u a b with e | e
  · rw [e]; simp
  · exact e
theorem Deep.base {w : World} {B B' : Nat} {v : Value} {ps : List Pg} {us : List Value} (h : Deep w B v ps us) (hB : B' ≤ B) : Deep w B' v ps us :=
  ⟨h.1.base hB, fun k x ws u a b => ⟨(h.2.1 k x ws u a b).1.base hB, (h.2.1 k x ws u a b).2⟩, h.2.2⟩
theorem Deep.below {w w' : World} {B : Nat} {v : Value} {ps : List Pg} {us : List Value} (h : Deep w B v ps us) (hb : Below w.heap.size w w') : Deep w' B v ps us :=
  ⟨h.1.below hb, fun k x ws u a b => ⟨(h.2.1 k x ws u a b).1.below hb, (h.2.1 k x ws u a b).2⟩, h.2.2⟩
theorem Deep.snoc {w w2 w2' w3 : World} {B : Nat} {v v3 u : Value} {ps : List Pg} {us : List Value} {x : Int} {ws : List Int} (h : Deep w B v ps us) (hb : Below w.heap.size w w2) (ho : IntsOwn w2 B u ws) (hu : ∀ g, u.ownBlock = some g → w.heap.size ≤ g)
    (hb' : Below w2.heap.size w2 w2') (hp : PagesRow w3 B v3 (ps ++ [(x, ws)]) (us ++ [u])) (hg : w2'.grownBy w3 v.ownBlock) (hat : v3.ownBlock = v.ownBlock ∨ v3.ownBlock = some w2'.heap.size) : Deep w3 B v3 (ps ++ [(x, ws)]) (us ++ [u]) := by
  obtain ⟨h1, h2, h3⟩ := h
  have hl := h1.1
  have hbb := hb.tr hb'
  have une : u.ownBlock = none ∨ u.ownBlock ≠ v.ownBlock := by
    cases hu' : u.ownBlock with
    | none => exact .inl rfl
    | some g => right; intro e; have := (h1.lt g e.symm).2; have := hu g hu'; omega
  have new : ∀ (u' : Value) (zs : List Int) (w0 : World), IntsOwn w0 B u' zs → w0.heap.size ≤ w2'.heap.size → (u'.ownBlock = none ∨ u'.ownBlock ≠ v.ownBlock) → (u'.ownBlock = none ∨ u'.ownBlock ≠ v3.ownBlock) := fun u' zs w0 a b c => by
    rcases hat with hat | hat
    · rw [hat]; exact c
    · rw [hat]
      cases hu' : u'.ownBlock with
      | none => exact .inl rfl
      | some g => right; intro e; injection e with e; have := (a.lt g hu').2; omega
  refine ⟨hp, fun k y zs u' a b => ?_, fun i j u1 u2 hij a b => ?_⟩
  · rcases Nat.lt_or_ge k ps.length with hk | hk
    · rw [List.getElem?_append_left hk] at a
      rw [List.getElem?_append_left (by omega)] at b
      obtain ⟨g1, g2⟩ := h2 k y zs u' a b
      exact ⟨(g1.below hbb).keep hg g2, new u' zs _ g1 hbb.size g2⟩
    · rw [List.getElem?_append_right hk] at a
      rw [List.getElem?_append_right (by omega), hl] at b
      have e0 : k = ps.length := by have := (List.getElem?_eq_some_iff.1 a).1; simp at this; omega
      subst e0
      simp at a b
      obtain ⟨rfl, rfl⟩ := a
      subst b
      exact ⟨(ho.below hb').keep hg une, new u _ _ ho hb'.size une⟩
  · have hj := (List.getElem?_eq_some_iff.1 b).1
    rw [List.length_append, List.length_singleton] at hj
    rw [List.getElem?_append_left (by omega)] at a
    rcases Nat.lt_or_ge j us.length with hj' | hj'
    · rw [List.getElem?_append_left hj'] at b
      exact h3 i j u1 u2 hij a b
    · rw [List.getElem?_append_right hj', show j - us.length = 0 by omega] at b
      simp at b
      subst b
      cases hu1 : u1.ownBlock with
      | none => exact .inl rfl
      | some g =>
        right
        intro e
        obtain ⟨⟨y, zs⟩, hy⟩ := get_of_lt (show i < ps.length by omega)
        have := ((h2 i y zs u1 hy a).1.lt g hu1).2
        have := hu g e.symm
        omega
def CopyPost (ps : List Pg) (w : World) (e : Ending) (w' : World) : Prop := ∃ v us, e = .returned (.agg #[v]) ∧ Deep w' w.heap.size v ps us ∧ Below w.heap.size w w'

set_option maxHeartbeats 2000000 in
theorem copy_any (v : Value) (ps : List Pg) (w : World) (h : PagesAt w v ps) (hs : Small ps) :
    Calls Try.prog 36 #[.agg #[v]] w (CopyPost ps w) := by
  obtain ⟨A, cap, rfl, hcap, hm, hc⟩ := h
  have Hc := Lib.hid hc; clear hc
  have hm' := hm.1
  clear hm
  have hl := hs.1
  have HS := Lib.hid hs; clear hs
  go_enter Try.func36, Try.ntmps36
  go_wp2_with fail
  go_loopw [4] (fun s wr => ∃ (k : Nat) (us : List Value) (v : Value), s = .int .i64 (k : Int) ∧ k ≤ ps.length ∧ Box wr w.heap.size 24 (.slice A ps.length cap) ∧ Box wr (w.heap.size + 1) 24 (.slice none 0 0) ∧ Box wr (w.heap.size + 2) 24 v ∧
      Deep wr (w.heap.size + 3) v (ps.take k) us ∧ Below w.heap.size w wr) (fun s _ => ps.length - (intOf s).toNat)
  case atStart =>
    refine ⟨0, [], .slice none 0 0, rfl, by omega, ?_, ?_, ?_, Deep.nil _ _, (((Below.refl _ _).al _).al _).al _⟩
    · exact ((Box.new _ _ _).alloc _).alloc _
    · have := (Box.new (w.alloc (.cells #[.slice A ps.length cap] 24)) 24 (.slice none 0 0)).alloc (.cells #[.slice none 0 0] 24)
      simpa using this
    · have := (Box.new ((w.alloc (.cells #[.slice A ps.length cap] 24)).alloc (.cells #[.slice none 0 0] 24)) 24 (.slice none 0 0))
      simpa using this
  case round =>
    obtain ⟨k, us, v, rfl, hk, hb0, hb1, hb2, hdeep, hb⟩ := hrel
    have hrow := hdeep.1
    obtain ⟨V, vc, rfl⟩ := hrow.shape
    rw [show (ps.take k).length = k by simp; omega] at hb2 hdeep hrow
    have c0 := hb0.cell; have c1 := hb1.cell; have c2 := hb2.cell; have f1 := hb1.frozen; have f2 := hb2.frozen; have l2 := hb2.lt
    have HB0 := Lib.hid hb0; have HB1 := Lib.hid hb1; have HB2 := Lib.hid hb2; have HD := Lib.hid hdeep; have HROW := Lib.hid hrow; have HB := Lib.hid hb
    clear hb0 hb1 hb2 hdeep hrow hb
    by_cases hlt : k < ps.length
    · obtain ⟨⟨x, ws⟩, hx⟩ := get_of_lt hlt
      obtain ⟨b, off, u, rfl, hi, p1, p2, hu⟩ := Hc.out k x ws hx
      have d1 := cell_below HB.out p1; have d2 := cell_below HB.out p2
      have hbl := World.block_lt_of_cell? _ _ p1
      simp only at hbl
      have hbs := HB.out.size
      have hur := hu.below HB.out
      have HX := Lib.hid hx; have HU := Lib.hid hur
      clear hx p1 p2 hu hur
      have hk0 : (0 : Int) ≤ (k : Int) := Int.natCast_nonneg _
      have hk1 : (k : Int) < (ps.length : Int) := by omega
      go_wp2_with fail
      obtain ⟨S, eS⟩ : ∃ S : World → Prop, S = fun w' => w'.cell? ⟨w.heap.size + 2, 0, none⟩ = some (.slice V k vc) ∧ w'.cell? ⟨w.heap.size, 0, none⟩ = some (.slice (some ⟨b, off, none⟩) ps.length cap) ∧ w'.cell? ⟨b, off + k * 2, none⟩ = some (.int .i64 x) ∧ w'.cell? ⟨b, off + k * 2 + 1, none⟩ = some (u) := ⟨_, rfl⟩
      have mkS : ∀ w' : World, w'.cell? ⟨w.heap.size + 2, 0, none⟩ = some (.slice V k vc) → w'.cell? ⟨w.heap.size, 0, none⟩ = some (.slice (some ⟨b, off, none⟩) ps.length cap) → w'.cell? ⟨b, off + k * 2, none⟩ = some (.int .i64 x) → w'.cell? ⟨b, off + k * 2 + 1, none⟩ = some (u) → S w' := fun w' g0 g1 g2 g3 => by rw [eS]; exact ⟨g0, g1, g2, g3⟩
      have sS := mkS _ c2 c0 d1 d2
      have ne_ : Nonempty (Lex.HW S) := ⟨⟨_, sS⟩⟩
      have exS : ∀ w' : World, S w' → w'.cell? ⟨w.heap.size + 2, 0, none⟩ = some (.slice V k vc) ∧ w'.cell? ⟨w.heap.size, 0, none⟩ = some (.slice (some ⟨b, off, none⟩) ps.length cap) ∧ w'.cell? ⟨b, off + k * 2, none⟩ = some (.int .i64 x) ∧ w'.cell? ⟨b, off + k * 2 + 1, none⟩ = some (u) := fun w' h => by rw [eS] at h; exact h
      have q0_ : ∀ p : Lex.HW S, p.w.cell? ⟨w.heap.size + 2, 0, none⟩ = some (.slice V k vc) := fun p => (exS _ p.ok).1
      have q1_ : ∀ p : Lex.HW S, p.w.cell? ⟨w.heap.size, 0, none⟩ = some (.slice (some ⟨b, off, none⟩) ps.length cap) := fun p => (exS _ p.ok).2.1
      have q2_ : ∀ p : Lex.HW S, p.w.cell? ⟨b, off + k * 2, none⟩ = some (.int .i64 x) := fun p => (exS _ p.ok).2.2.1
      have q3_ : ∀ p : Lex.HW S, p.w.cell? ⟨b, off + k * 2 + 1, none⟩ = some (u) := fun p => (exS _ p.ok).2.2.2
      clear eS exS
      have MKS := Lib.hid mkS; clear mkS sS
      refine Lex.wp_region_lex S 20 [([0, 1, 2, 3, 4, 5, 6, 7, 9, 10, 11, 12, 13, 14], some 8), ([], some 15), ([16], some 17), ([], some 18), ([19], some 20)] (by kernel_rfl) (by kernel_rfl) (fun _ _ d _ _ h => by cases d <;> exact h) (MKS.out _ c2 c0 d1 d2) ?_
      refine Lex.lexW_some (os := ?_) (o := ?_) (by simp only [List.filterMap_cons, List.filterMap_nil, List.getElem?_toArray, List.getElem?_cons_zero, List.getElem?_cons_succ]; rfl) (by simp only [List.getElem?_toArray, List.getElem?_cons_zero, List.getElem?_cons_succ]; rfl) ?_
      repeat (first | go_big_quiet_step (fail) | quiet_step (fail))
      refine wpQuiet_nil ?_
      intro K hK
      have HK := Lib.hid hK; clear hK
      go_wp2_with fail
      have hA : Below wr.heap.size wr (wr.alloc (.cells #[] 3)).drew := ((Below.refl _ _).al _).drew
      refine HK.out _ _ (fun _ => MKS.out _ (cell_below hA c2) (cell_below hA c0) (cell_below hA d1) (cell_below hA d2)) ?_
      clear HK K
      clear hA
      refine Lex.lexW_some (os := ?_) (o := ?_) (by simp only [List.filterMap_nil]; rfl) (by simp only [List.getElem?_toArray, List.getElem?_cons_zero, List.getElem?_cons_succ]; rfl) ?_
      repeat (first | go_big_quiet_step (fail) | quiet_step (fail))
      refine wpQuiet_nil ?_
      intro K hK
      have HK := Lib.hid hK; clear hK
      go_wp2_with (at_builtin; refine app_ints _ rfl (.tmp 20) (.tmp 26) rfl (w.heap.size + 3) (.slice (some ⟨wr.heap.size, 0, none⟩) 0 0) [] rfl (IntsOwn.empty (heap_alloc_new wr _) (by omega)) u ws rfl (HU.out.below ((Below.refl _ _).al _).drew) (by have := HS.out.2 k x ws HX.out; simp; omega) (by simp; omega) ?_; intro v2 w2 ho2 hg2 hat2; rw [List.nil_append] at ho2; obtain ⟨A2, q2, rfl⟩ := ho2.shape; have HO2 := Lib.hid ho2; have HG2 := Lib.hid hg2; have HAT2 := Lib.hid hat2; clear ho2 hg2 hat2)
      have hB2 : Below wr.heap.size wr w2 := (((Below.refl _ _).al _).drew).grown HG2.out (by simp) (fun g hg => by simp [Value.ownBlock] at hg; omega)
      have HB2' := Lib.hid hB2; clear hB2
      refine HK.out _ _ (fun _ => MKS.out _ (cell_below HB2'.out c2) (cell_below HB2'.out c0) (cell_below HB2'.out d1) (cell_below HB2'.out d2)) ?_
      clear HK K
      refine Lex.lexW_some (os := ?_) (o := ?_) (by simp only [List.filterMap_cons, List.filterMap_nil, List.getElem?_toArray, List.getElem?_cons_zero, List.getElem?_cons_succ]; rfl) (by simp only [List.getElem?_toArray, List.getElem?_cons_zero, List.getElem?_cons_succ]; rfl) ?_
      repeat (first | go_big_quiet_step (fail) | quiet_step (fail))
      refine wpQuiet_nil ?_
      intro K hK
      have HK := Lib.hid hK; clear hK
      go_wp2_with fail
      have hA : Below wr.heap.size wr (w2.alloc (.cells #[.int .i64 x, .slice A2 ws.length q2] 31)) := HB2'.out.al _
      refine HK.out _ _ (fun _ => MKS.out _ (cell_below hA c2) (cell_below hA c0) (cell_below hA d1) (cell_below hA d2)) ?_
      clear HK K
      clear hA
      refine Lex.lexW_some (os := ?_) (o := ?_) (by simp only [List.filterMap_nil]; rfl) (by simp only [List.getElem?_toArray, List.getElem?_cons_zero, List.getElem?_cons_succ]; rfl) ?_
      repeat (first | go_big_quiet_step (fail) | quiet_step (fail))
      refine wpQuiet_nil ?_
      intro K hK
      have HK := Lib.hid hK; clear hK
      go_wp2_with (at_builtin; refine app_page _ rfl (.tmp 13) (.tmp 29) rfl (w.heap.size + 3) (.slice V k vc) (ps.take k) us rfl ((HROW.out.below HB2'.out).below ((Below.refl _ _).al _)) w2.heap.size x (.slice A2 ws.length q2) ws rfl (by simp [go_sem]) (by simp [go_sem]) hi (HO2.out.at_.below ((Below.refl _ _).al _)) (off_new HROW.out (HAT2.out.imp (fun h => h.trans rfl) (fun h => h.trans rfl)) (Nat.le_refl _) (by simp)) (by simp; omega) (by have := HB2'.out.size; simp; omega) ?_; intro v3 w3 ho3 hg3 hat3; have HO3 := Lib.hid ho3; have HG3 := Lib.hid hg3; have HAT3 := Lib.hid hat3; clear ho3 hg3 hat3)
      obtain ⟨V3, vc3, hv3⟩ := HO3.out.shape
      have hk3 : (ps.take k ++ [(x, ws)]).length = k + 1 := by simp; omega
      rw [hk3] at hv3
      subst hv3
      clear hk3
      have hbx3 : Box w3 (w.heap.size + 2) 24 (.slice V k vc) := ((HB2.out.below HB2'.out l2).alloc _).keep HG3.out (HROW.out.ne_ (by omega)).symm
      have hc3 := hbx3.cell; have hf3 := hbx3.frozen; have hl3 := hbx3.lt
      have HBX3 := Lib.hid hbx3; clear hbx3
      refine HK.out _ _ (fun _ => MKS.out _ hc3 (HG3.out.cell (cell_below ((Below.refl _ _).al _) (cell_below HB2'.out c0)) (HROW.out.neC (by omega))) (HG3.out.cell (cell_below ((Below.refl _ _).al _) (cell_below HB2'.out d1)) (HROW.out.neC (by omega))) (HG3.out.cell (cell_below ((Below.refl _ _).al _) (cell_below HB2'.out d2)) (HROW.out.neC (by omega)))) ?_
      clear HK K
      refine Lex.lexW_some (os := ?_) (o := ?_) (by simp only [List.filterMap_cons, List.filterMap_nil, List.getElem?_toArray, List.getElem?_cons_zero, List.getElem?_cons_succ]; rfl) (by simp only [List.getElem?_toArray, List.getElem?_cons_zero, List.getElem?_cons_succ]; rfl) ?_
      repeat (first | go_big_quiet_step (fail) | quiet_step (fail))
      refine wpQuiet_nil ?_
      intro K hK
      have HK := Lib.hid hK; clear hK
      go_wp2_with fail
      refine HK.out _ _ (fun h => absurd h (by decide)) (Lex.lexW_nil ?_)
      clear HK K
      go_wp2_with fail
      go_roundw
      case rel =>
        have hd3 := HD.out.snoc HB2'.out HO2.out (fun g hg => by
          rcases HAT2.out with h | h <;> rw [hg] at h
          · have : g = wr.heap.size := by simpa [Value.ownBlock] using h
            omega
          · have : g = (wr.alloc (.cells #[] 3)).heap.size := by simpa using h
            simp at this; omega) ((Below.refl _ _).al _) HO3.out HG3.out HAT3.out
        have hd3' := hd3.setCell (p := ⟨w.heap.size + 2, 0, none⟩) (x := .slice V3 (k + 1) vc3) (by simp)
        rw [take_snoc HX.out] at hd3'
        exact ⟨k + 1, _, _, by go_num, by omega, ((((HB0.out.below HB2'.out (by omega)).alloc _).keep HG3.out (HROW.out.ne_ (by omega)).symm).far (by simp <;> omega) _), ((((HB1.out.below HB2'.out (by omega)).alloc _).keep HG3.out (HROW.out.ne_ (by omega)).symm).far (by simp <;> omega) _), HBX3.out.set_ _, hd3',
          ((((HB.out.tr HB2'.out).al _).grown HG3.out (by have := HB2'.out.size; simp; omega) (fun g hg => by have := (HROW.out.lt g hg).1; omega)).setCell (by simp <;> omega) _)⟩
      case measure => simp [intOf]; omega
    · go_wp2_with fail
      have hcS := (HB1.out.set_ (.slice V k vc)).cell
      refine bodyPost_ret (v := .agg #[.slice V k vc]) ?_ rfl ?_
      · simp [results, Try.results36, go_sem, hcS]
      have hd := HD.out.setCell (p := ⟨w.heap.size + 1, 0, none⟩) (x := .slice V k vc) (by simp)
      rw [List.take_of_length_le (by omega)] at hd
      exact ⟨_, us, rfl, hd.base (by omega), HB.out.setCell (by simp) _⟩
end Go.Proofs.Ytgkenbjpmondeaa
