/- Proved: debuggerref25.Add refuses a page that is not right, and else puts the page among the others in order, for fewer than 50000 pages. -/
import Derived.Test.YtgkenbjpmondeaaAppend
namespace Go.Proofs.Ytgkenbjpmondeaa
open Go.RowKit

theorem PagesRow.offNew {w : World} {B lo hi : Nat} {v : Value} {ps : List Pg} {us : List Value} (h : PagesRow w B v ps us) (hlo : w.heap.size ≤ lo) : OffAll ps us lo hi := fun k x ws u a b g h1 _ => by
  obtain ⟨_, _, u', _, hu', _, _, _, hi, _⟩ := h.get a
  rw [b] at hu'; cases hu'
  exact Off.new_ hi (by omega)
theorem OffAll.take {ps : List Pg} {us : List Value} {lo hi : Nat} (h : OffAll ps us lo hi) (n : Nat) : OffAll (ps.take n) (us.take n) lo hi := fun k x ws u a b => by
  rw [List.getElem?_take] at a b
  split at a
  · rename_i hk
    rw [if_pos hk] at b
    exact h k x ws u a b
  · cases a

theorem OffAll.drop {ps : List Pg} {us : List Value} {lo hi : Nat} (h : OffAll ps us lo hi) (n : Nat) : OffAll (ps.drop n) (us.drop n) lo hi := fun k x ws u a b => by
  rw [List.getElem?_drop] at a b
  exact h _ x ws u a b
theorem OffAll.append {ps qs : List Pg} {us vs : List Value} {lo hi : Nat} (h : OffAll ps us lo hi) (h' : OffAll qs vs lo hi) (hl : us.length = ps.length) : OffAll (ps ++ qs) (us ++ vs) lo hi := fun k x ws u a b => by
  rcases Nat.lt_or_ge k ps.length with hk | hk
  · rw [List.getElem?_append_left hk] at a
    rw [List.getElem?_append_left (by omega)] at b
    exact h k x ws u a b
  · rw [List.getElem?_append_right hk] at a
    rw [List.getElem?_append_right (by omega), hl] at b
    exact h' _ x ws u a b
theorem OffAll.of_ge {ps : List Pg} {us : List Value} {N lo hi : Nat} (h : ∀ (k : Nat) (x : Int) (ws : List Int) (u : Value), ps[k]? = some (x, ws) → us[k]? = some u → ∀ g, u.ownBlock = some g → N ≤ g) (hh : hi ≤ N) : OffAll ps us lo hi := fun k x ws u a b g h1 h2 _ e => by
  have := h k x ws u a b g e; omega
theorem PagesRow.shape2 {w : World} {B : Nat} {A : Option Addr} {n c : Nat} {ps : List Pg} {us : List Value} (h : PagesRow w B (.slice A n c) ps us) : (A = none ∧ n = 0 ∧ c = 0) ∨ ∃ b, A = some ⟨b, 0, none⟩ := by
  obtain ⟨_, cs, ho, _⟩ := h
  rcases ho.2 with ⟨e, h0⟩ | ⟨g, cap, cur, e, _⟩
  · injection e with e1 e2 e3
    exact .inl ⟨e1, e2, e3⟩
  · injection e with e1 e2 e3
    exact .inr ⟨g, e1⟩
theorem src_end {w : World} {qs : List Pg} {vs : List Value} {n k c : Nat} {A : Option Addr} (hk : qs.length ≤ k) (hv : vs.length = qs.length) (hn : n = 0) (hA : A = none → c = 0) : PagesSrc w (.slice A n c) (qs.drop k) (vs.drop k) := by
  rw [List.drop_eq_nil_of_le hk, List.drop_eq_nil_of_le (by omega)]
  subst hn
  exact ⟨rfl, A, c, rfl, hA, by simp⟩
/-- the words lie in blocks from N on -/
def GeAll (ps : List Pg) (us : List Value) (N : Nat) : Prop := ∀ (k : Nat) (x : Int) (ws : List Int) (u : Value), ps[k]? = some (x, ws) → us[k]? = some u → ∀ g, u.ownBlock = some g → N ≤ g
theorem GeAll.take {ps : List Pg} {us : List Value} {N : Nat} (h : GeAll ps us N) (n : Nat) : GeAll (ps.take n) (us.take n) N := fun k x ws u a b => by
  rw [List.getElem?_take] at a b
  split at a
  · rename_i hk
    rw [if_pos hk] at b
    exact h k x ws u a b
  · cases a
theorem GeAll.drop {ps : List Pg} {us : List Value} {N : Nat} (h : GeAll ps us N) (n : Nat) : GeAll (ps.drop n) (us.drop n) N := fun k x ws u a b => by
  rw [List.getElem?_drop] at a b
  exact h _ x ws u a b
theorem GeAll.append {ps qs : List Pg} {us vs : List Value} {N : Nat} (h : GeAll ps us N) (h' : GeAll qs vs N) (hl : us.length = ps.length) : GeAll (ps ++ qs) (us ++ vs) N := fun k x ws u a b => by
  rcases Nat.lt_or_ge k ps.length with hk | hk
  · rw [List.getElem?_append_left hk] at a
    rw [List.getElem?_append_left (by omega)] at b
    exact h k x ws u a b
  · rw [List.getElem?_append_right hk] at a
    rw [List.getElem?_append_right (by omega), hl] at b
    exact h' _ x ws u a b
theorem GeAll.mono {ps : List Pg} {us : List Value} {N N' : Nat} (h : GeAll ps us N) (hN : N' ≤ N) : GeAll ps us N' := fun k x ws u a b g e => Nat.le_trans hN (h k x ws u a b g e)
/-- where the page goes -/
def AddP (rs : List Pg) (p : Pg) (out : List Pg) : Prop := ∃ k, k ≤ rs.length ∧ (∀ (j : Nat) (y : Int) (zs : List Int), j < k → rs[j]? = some (y, zs) → y < p.1) ∧ (∀ (y : Int) (zs : List Int), rs[k]? = some (y, zs) → p.1 ≤ y) ∧ out = rs.take k ++ [p] ++ rs.drop k
def AddPost (ps : List Pg) (p : Pg) (w : World) (e : Ending) (w' : World) : Prop := ∃ v us out, e = .returned (.tuple #[.agg #[v], .int .i64 0]) ∧ AddP (fil p.1 ps) p out ∧ PagesRow w' w.heap.size v out us ∧ GeAll out us w.heap.size ∧ Below w.heap.size w w'
def AddBad (w : World) (e : Ending) (w' : World) : Prop := e = .returned (.tuple #[.agg #[.slice none 0 0], .int .i64 1]) ∧ Below w.heap.size w w'

theorem pageB_len {x : Int} {ws : List Int} (h : pageB (x, ws) = true) : ws.length = 64 := by
  simp [pageB] at h; exact h.2
/-- a local variable of two cells -/
def Box2 (w : World) (g : Nat) (t : TypeId) (a b : Value) : Prop := w.heap[g]? = some (.cells #[a, b] t (0, 0))
theorem Box2.cell0 {w : World} {g : Nat} {t : TypeId} {a b : Value} (h : Box2 w g t a b) : w.cell? ⟨g, 0, none⟩ = some a := by unfold Box2 at h; simp [World.cell?, h]
theorem Box2.cell1 {w : World} {g : Nat} {t : TypeId} {a b : Value} (h : Box2 w g t a b) : w.cell? ⟨g, 1, none⟩ = some b := by unfold Box2 at h; simp [World.cell?, h]
theorem Box2.lt {w : World} {g : Nat} {t : TypeId} {a b : Value} (h : Box2 w g t a b) : g < w.heap.size := (Array.getElem?_eq_some_iff.1 h).1
theorem Box2.new (w : World) (t : TypeId) (a b : Value) : Box2 (w.alloc (.cells #[a, b] t)) w.heap.size t a b := heap_alloc_new w _
theorem Box2.below {w w' : World} {B g : Nat} {t : TypeId} {a b : Value} (h : Box2 w g t a b) (hb : Below B w w') (hg : g < B) : Box2 w' g t a b := (hb.block g hg).trans h
theorem Box2.alloc {w : World} {g : Nat} {t : TypeId} {a b : Value} (h : Box2 w g t a b) (o : Obj) : Box2 (w.alloc o) g t a b := h.below ((Below.refl _ _).al o) h.lt

/-- the three variables at the start of Add -/
theorem add_start (w : World) (A B C D : Value) : Box (((w.alloc (.cells #[A] 24)).alloc (.cells #[B, C] 31)).alloc (.cells #[D] 24)) w.heap.size 24 A ∧ Box2 (((w.alloc (.cells #[A] 24)).alloc (.cells #[B, C] 31)).alloc (.cells #[D] 24)) (w.heap.size + 1) 31 B C ∧
    Box (((w.alloc (.cells #[A] 24)).alloc (.cells #[B, C] 31)).alloc (.cells #[D] 24)) (w.heap.size + 2) 24 D := by
  refine ⟨((Box.new _ _ _).alloc _).alloc _, ?_, ?_⟩
  · have := (Box2.new (w.alloc (.cells #[A] 24)) 31 B C).alloc (.cells #[D] 24)
    simpa using this
  · have := Box.new ((w.alloc (.cells #[A] 24)).alloc (.cells #[B, C] 31)) 24 D
    simpa using this

set_option maxHeartbeats 1000000 in
theorem add_bad (v u : Value) (ps : List Pg) (x : Int) (ws : List Int) (w : World) (h : PagesAt w v ps) (hu : IntsAt w u ws) (hp : pageB (x, ws) = false) :
    Calls Try.prog 27 #[.agg #[v], .agg #[.int .i64 x, u]] w (AddBad w) := by
  have HU := Lib.hid hu
  have HP := Lib.hid hp; clear hp
  obtain ⟨A, cap, rfl, -, -, -⟩ := h
  obtain ⟨U, uc, rfl, -, -, -⟩ := hu
  have HST := Lib.hid (add_start w (.slice A ps.length cap) (.int .i64 x) (.slice U ws.length uc) (.slice none 0 0))
  go_enter Try.func27, Try.ntmps27
  go_wp2_with fail
  refine (page_any x _ ws _ (HU.out.below ((((Below.refl _ _).al _).al _).al _))).mono ?_
  rintro e w0 ⟨rfl, hb0⟩
  rw [HP.out]
  have hbr := HST.out.2.2.below hb0 (by simp <;> omega)
  have cr := hbr.cell; have fr := hbr.frozen; have lr := hbr.lt
  have hB := ((((Below.refl w.heap.size w).al _).al _).al _).tr hb0
  have HBR := Lib.hid hbr; have HB := Lib.hid hB
  clear hbr hB hb0
  go_wp2_with fail
  have hcS := (HBR.out.set_ (.slice none 0 0)).cell
  refine bodyPost_ret (v := .tuple #[.agg #[.slice none 0 0], .int .i64 1]) ?_ rfl ?_
  · simp [results, Try.results27, go_sem, hcS]
  exact ⟨rfl, HB.out.setCell (by simp <;> omega) _⟩


set_option maxRecDepth 1000000 in
set_option maxHeartbeats 4000000 in
theorem add_any (v u : Value) (ps : List Pg) (x : Int) (ws : List Int) (w : World) (h : PagesAt w v ps) (hs : Small ps) (hl5 : ps.length < 50000) (hx : I64 x) (hu : IntsAt w u ws) (hp : pageB (x, ws) = true) :
    Calls Try.prog 27 #[.agg #[v], .agg #[.int .i64 x, u]] w (AddPost ps (x, ws) w) := by
  have HU := Lib.hid hu; have HPA := Lib.hid h
  have HP := Lib.hid hp; clear hp
  have HS := Lib.hid hs; clear hs
  have HIX := Lib.hid hx; clear hx
  obtain ⟨A, cap, rfl, -, -, -⟩ := h
  obtain ⟨U, uc, rfl, -, -, -⟩ := hu
  have HST := Lib.hid (add_start w (.slice A ps.length cap) (.int .i64 x) (.slice U ws.length uc) (.slice none 0 0))
  go_enter Try.func27, Try.ntmps27
  go_wp2_with fail
  refine (page_any x _ ws _ (HU.out.below ((((Below.refl _ _).al _).al _).al _))).mono ?_
  rintro e w0 ⟨rfl, hb0⟩
  rw [HP.out]
  have hB0 := ((((Below.refl w.heap.size w).al _).al _).al _).tr hb0
  have hbm := HST.out.1.below hb0 (by simp <;> omega)
  have hbp := HST.out.2.1.below hb0 (by simp <;> omega)
  have hbr := HST.out.2.2.below hb0 (by simp <;> omega)
  have cm := hbm.cell; have cp0 := hbp.cell0; have cp1 := hbp.cell1; have lr := hbr.lt
  have HBP0 := Lib.hid hbp; have HBR0 := Lib.hid hbr; have HB0 := Lib.hid hB0
  clear hbm hbp hbr hB0 hb0
  go_wp2_with fail
  refine (without_any _ ps x _ (HPA.out.below HB0.out) HS.out).mono ?_
  rintro e w1 ⟨rv, us, rfl, hrow, hb1, hge⟩
  obtain ⟨R, rc, rfl⟩ := hrow.shape
  obtain ⟨rs, hrs⟩ : ∃ rs, rs = fil x ps := ⟨_, rfl⟩
  rw [← hrs] at hrow hge ⊢
  have hrl : rs.length ≤ ps.length := by rw [hrs]; exact fil_len _ _
  have HRS := Lib.hid hrs; clear hrs
  have hrc : rs.length ≤ rc := by
    obtain ⟨R', rc', e, h1, _⟩ := hrow.at_
    injection e with e1 e2 e3
    omega
  have hB1 := HB0.out.tr hb1
  have hbp := HBP0.out.below hb1 HBP0.out.lt
  have hbr := HBR0.out.below hb1 HBR0.out.lt
  have hs1 : w.heap.size + 2 < w1.heap.size := Nat.lt_of_lt_of_le lr hb1.size
  have HBP1 := Lib.hid hbp; have HBR1 := Lib.hid hbr; have HB1 := Lib.hid hB1; have HR := Lib.hid hrow; have HGE := Lib.hid hge
  have hs0 : w0.heap.size ≤ w1.heap.size := hb1.size
  clear hbp hbr hB1 hb1 hrow hge cm cp0 cp1 HST
  go_wp2_with fail
  go_loopw [8] (fun s wr => ∃ (k : Nat) (v : Value), s = .int .i64 (k : Int) ∧ k ≤ rs.length ∧ (∀ (j : Nat) (y : Int) (zs : List Int), j < k → rs[j]? = some (y, zs) → y < x) ∧ Box wr w1.heap.size 24 (.slice R rs.length rc) ∧ Box wr (w1.heap.size + 1) 24 v ∧
      PagesRow wr (w1.heap.size + 2) v (rs.take k) (us.take k) ∧ Below w1.heap.size w1 wr) (fun s _ => rs.length - (intOf s).toNat)
  case atStart =>
    refine ⟨0, .slice none 0 0, rfl, by omega, by omega, ?_, ?_, PagesRow.nil _ _, ((Below.refl _ _).al _).al _⟩
    · exact (Box.new _ _ _).alloc _
    · have hx := Box.new (w1.alloc (.cells #[.slice R rs.length rc] 24)) 24 (.slice none 0 0)
      simpa using hx
  case round =>
    obtain ⟨k, v, rfl, hk, hlo, hb6, hb7, hrow, hb⟩ := hrel
    obtain ⟨V, vc, rfl⟩ := hrow.shape
    rw [show (rs.take k).length = k by simp; omega] at hb7 hrow
    have c6 := hb6.cell; have c7 := hb7.cell; have f7 := hb7.frozen; have l7 := hb7.lt
    have hbp := HBP1.out.below hb HBP1.out.lt
    have cp0 := hbp.cell0; have cp1 := hbp.cell1
    have hbs := hb.size
    have HB6 := Lib.hid hb6; have HB7 := Lib.hid hb7; have HROW := Lib.hid hrow; have HB := Lib.hid hb; have HLO := Lib.hid hlo; have HBP := Lib.hid hbp
    clear hb6 hb7 hrow hb hlo hbp
    by_cases hgo : ∃ (y : Int) (zs : List Int), rs[k]? = some (y, zs) ∧ y < x
    · obtain ⟨y, zs, hy, hyx⟩ := hgo
      have hlt : k < rs.length := (List.getElem?_eq_some_iff.1 hy).1
      obtain ⟨b, rc', q, e1, hq, hi, p1, p2, hqi, hbB⟩ := HR.out.get hy
      obtain ⟨rfl, rfl⟩ : R = some ⟨b, 0, none⟩ ∧ rc = rc' := by simpa using e1
      clear e1
      have d1 := cell_below HB.out p1; have d2 := cell_below HB.out p2
      have hbl := World.block_lt_of_cell? _ _ p1
      simp only at hbl
      have HQI := Lib.hid hqi; have HY := Lib.hid hy; have HQ := Lib.hid hq
      obtain ⟨U', uc', rfl, -⟩ := hqi
      clear p1 p2 hy hq
      have hk0 : (0 : Int) ≤ (k : Int) := Int.natCast_nonneg _
      have hk1 : (k : Int) < (rs.length : Int) := by omega
      have hyd : decide (y < x) = true := by simpa using hyx
      go_wp2_with fail
      go_quiet (fail)
      go_wp2_with fail
      obtain ⟨S, eS⟩ : ∃ S : World → Prop, S = fun w' => w'.cell? ⟨w1.heap.size + 1, 0, none⟩ = some (.slice V k vc) ∧ w'.cell? ⟨w1.heap.size, 0, none⟩ = some (.slice (some ⟨b, 0, none⟩) rs.length rc) ∧ w'.cell? ⟨b, k * 2, none⟩ = some (.int .i64 y) ∧ w'.cell? ⟨b, k * 2 + 1, none⟩ = some (.slice U' zs.length uc') := ⟨_, rfl⟩
      have mkS : ∀ w' : World, w'.cell? ⟨w1.heap.size + 1, 0, none⟩ = some (.slice V k vc) → w'.cell? ⟨w1.heap.size, 0, none⟩ = some (.slice (some ⟨b, 0, none⟩) rs.length rc) → w'.cell? ⟨b, k * 2, none⟩ = some (.int .i64 y) → w'.cell? ⟨b, k * 2 + 1, none⟩ = some (.slice U' zs.length uc') → S w' := fun w' g0 g1 g2 g3 => by rw [eS]; exact ⟨g0, g1, g2, g3⟩
      have sS := mkS _ c7 c6 d1 d2
      have ne_ : Nonempty (Lex.HW S) := ⟨⟨_, sS⟩⟩
      have exS : ∀ w' : World, S w' → w'.cell? ⟨w1.heap.size + 1, 0, none⟩ = some (.slice V k vc) ∧ w'.cell? ⟨w1.heap.size, 0, none⟩ = some (.slice (some ⟨b, 0, none⟩) rs.length rc) ∧ w'.cell? ⟨b, k * 2, none⟩ = some (.int .i64 y) ∧ w'.cell? ⟨b, k * 2 + 1, none⟩ = some (.slice U' zs.length uc') := fun w' h => by rw [eS] at h; exact h
      have q0_ : ∀ p : Lex.HW S, p.w.cell? ⟨w1.heap.size + 1, 0, none⟩ = some (.slice V k vc) := fun p => (exS _ p.ok).1
      have q1_ : ∀ p : Lex.HW S, p.w.cell? ⟨w1.heap.size, 0, none⟩ = some (.slice (some ⟨b, 0, none⟩) rs.length rc) := fun p => (exS _ p.ok).2.1
      have q2_ : ∀ p : Lex.HW S, p.w.cell? ⟨b, k * 2, none⟩ = some (.int .i64 y) := fun p => (exS _ p.ok).2.2.1
      have q3_ : ∀ p : Lex.HW S, p.w.cell? ⟨b, k * 2 + 1, none⟩ = some (.slice U' zs.length uc') := fun p => (exS _ p.ok).2.2.2
      clear eS exS
      have MKS := Lib.hid mkS; clear mkS sS
      refine Lex.wp_region_lex S 10 [([0, 1, 2, 3, 4, 5, 6], some 7), ([], some 8), ([9], some 10)] (by kernel_rfl) (by kernel_rfl) (fun _ _ d _ _ h => by cases d <;> exact h) (MKS.out _ c7 c6 d1 d2) ?_
      refine Lex.lexW_some (os := ?_) (o := ?_) (by simp only [List.filterMap_cons, List.filterMap_nil, List.getElem?_toArray, List.getElem?_cons_zero, List.getElem?_cons_succ]; rfl) (by simp only [List.getElem?_toArray, List.getElem?_cons_zero, List.getElem?_cons_succ]; rfl) ?_
      repeat (first | go_big_quiet_step (fail) | quiet_step (fail))
      refine wpQuiet_nil ?_
      intro K hK
      have HK := Lib.hid hK; clear hK
      go_wp2_with fail
      have hA : Below wr.heap.size wr ((wr.drewN (nq + 1)).alloc (.cells #[.int .i64 y, .slice U' zs.length uc'] 31)) := ((below_drewN (Below.refl _ _) _).alloc (by simp) _)
      have HA := Lib.hid hA; clear hA
      refine HK.out _ _ (fun _ => MKS.out _ (cell_below HA.out c7) (cell_below HA.out c6) (cell_below HA.out d1) (cell_below HA.out d2)) ?_
      clear HK K
      refine Lex.lexW_some (os := ?_) (o := ?_) (by simp only [List.filterMap_nil]; rfl) (by simp only [List.getElem?_toArray, List.getElem?_cons_zero, List.getElem?_cons_succ]; rfl) ?_
      repeat (first | go_big_quiet_step (fail) | quiet_step (fail))
      refine wpQuiet_nil ?_
      intro K hK
      have HK := Lib.hid hK; clear hK
      refine app_page _ rfl (.tmp 42) (.tmp 48) rfl (w1.heap.size + 2) (.slice V k vc) (rs.take k) (us.take k) rfl (HROW.out.below HA.out) wr.heap.size y (.slice U' zs.length uc') zs rfl (Box2.new _ _ _ _).cell0 (Box2.new _ _ _ _).cell1 hi ((HQI.out.below HB.out).below HA.out) (fun hn => off_old HQI.out hn HROW.out (by omega)) (by simp; omega) (by have := HA.out.size; omega) ?_
      intro v3 w3 ho3 hg3 hat3
      have HO3 := Lib.hid ho3; have HG3 := Lib.hid hg3; have HAT3 := Lib.hid hat3
      clear ho3 hg3 hat3
      obtain ⟨V3, vc3, hv3⟩ := HO3.out.shape
      have hk3 : (rs.take k ++ [(y, zs)]).length = k + 1 := by simp; omega
      rw [hk3] at hv3
      subst hv3
      clear hk3
      have hbx3 : Box w3 (w1.heap.size + 1) 24 (.slice V k vc) := (HB7.out.below HA.out l7).keep HG3.out (HROW.out.ne_ (by omega)).symm
      have hc3 := hbx3.cell; have hf3 := hbx3.frozen; have hl3 := hbx3.lt
      have HBX3 := Lib.hid hbx3; clear hbx3
      refine HK.out _ _ (fun _ => MKS.out _ hc3 (HG3.out.cell (cell_below HA.out c6) (HROW.out.neC (by omega))) (HG3.out.cell (cell_below HA.out d1) (HROW.out.neC (by omega))) (HG3.out.cell (cell_below HA.out d2) (HROW.out.neC (by omega)))) ?_
      clear HK K
      refine Lex.lexW_some (os := ?_) (o := ?_) (by simp only [List.filterMap_cons, List.filterMap_nil, List.getElem?_toArray, List.getElem?_cons_zero, List.getElem?_cons_succ]; rfl) (by simp only [List.getElem?_toArray, List.getElem?_cons_zero, List.getElem?_cons_succ]; rfl) ?_
      repeat (first | go_big_quiet_step (fail) | quiet_step (fail))
      refine wpQuiet_nil ?_
      intro K hK
      have HK := Lib.hid hK; clear hK
      go_wp2_with fail
      refine HK.out _ _ (fun h => absurd h (by decide)) (Lex.lexW_nil ?_)
      clear HK K
      go_wp2_with fail
      go_roundw
      case rel =>
        have hoff3 := (HR.out.offNew (lo := w1.heap.size) (hi := w1.heap.size + 2) (Nat.le_refl _)).take (k + 1)
        rw [← take_snoc HY.out, ← take_snoc HQ.out] at hoff3
        have hr3 := HO3.out.setCell (p := ⟨w1.heap.size + 1, 0, none⟩) (x := .slice V3 (k + 1) vc3) (by simp) hoff3 (by simp) (by simp)
        rw [take_snoc HY.out, take_snoc HQ.out] at hr3
        refine ⟨k + 1, _, by go_num, by omega, fun j y' zs' hj hy' => ?_, ((HB6.out.below HA.out (by omega)).keep HG3.out (HROW.out.ne_ (by omega)).symm).far (by simp <;> omega) _, HBX3.out.set_ _, hr3, ?_⟩
        · rcases Nat.lt_or_ge j k with h | h
          · exact HLO.out j y' zs' h hy'
          · obtain rfl : j = k := by omega
            have := HY.out.symm.trans hy'
            simp at this
            omega
        · exact (((HB.out.tr HA.out).grown HG3.out (by have := HA.out.size; omega) (fun g hg => by have := (HROW.out.lt g hg).1; omega)).setCell (by simp <;> omega) _)
      case measure => simp [intOf]; omega
    · have hstop : ∀ (y : Int) (zs : List Int), rs[k]? = some (y, zs) → x ≤ y := fun y zs hy => by
        rcases Int.lt_or_le y x with h | h
        · exact absurd ⟨y, zs, hy, h⟩ hgo
        · exact h
      clear hgo
      have HSTOP := Lib.hid hstop
      have hk0 : (0 : Int) ≤ (k : Int) := Int.natCast_nonneg _
      by_cases hlt : k < rs.length
      · obtain ⟨⟨y, zs⟩, hy⟩ := get_of_lt hlt
        have hxy := hstop y zs hy
        obtain ⟨b, rc', q, e1, hq, hi, p1, p2, hqi, hbB⟩ := HR.out.get hy
        obtain ⟨rfl, rfl⟩ : R = some ⟨b, 0, none⟩ ∧ rc = rc' := by simpa using e1
        have d1 := cell_below HB.out p1
        have hk1 : (k : Int) < (rs.length : Int) := by omega
        have hyd : decide (y < x) = false := by simpa using hxy
        clear e1 p1 p2 hqi hq hy hstop
        go_wp2_with fail
        go_quiet (fail)
        clear d1
        go_wp2_with fail
        obtain ⟨S, eS⟩ : ∃ S : World → Prop, S = fun w' => w'.cell? ⟨w1.heap.size + 1, 0, none⟩ = some (.slice V k vc) ∧ w'.cell? ⟨w.heap.size + 1, 0, none⟩ = some (.int .i64 x) ∧ w'.cell? ⟨w.heap.size + 1, 1, none⟩ = some (.slice U ws.length uc) ∧ w'.cell? ⟨w1.heap.size, 0, none⟩ = some (.slice (some ⟨b, 0, none⟩) rs.length rc) := ⟨_, rfl⟩
        have mkS : ∀ w' : World, w'.cell? ⟨w1.heap.size + 1, 0, none⟩ = some (.slice V k vc) → w'.cell? ⟨w.heap.size + 1, 0, none⟩ = some (.int .i64 x) → w'.cell? ⟨w.heap.size + 1, 1, none⟩ = some (.slice U ws.length uc) → w'.cell? ⟨w1.heap.size, 0, none⟩ = some (.slice (some ⟨b, 0, none⟩) rs.length rc) → S w' := fun w' g0 g1 g2 g3 => by rw [eS]; exact ⟨g0, g1, g2, g3⟩
        have sS := mkS _ c7 cp0 cp1 c6
        have ne_ : Nonempty (Lex.HW S) := ⟨⟨_, sS⟩⟩
        have exS : ∀ w' : World, S w' → w'.cell? ⟨w1.heap.size + 1, 0, none⟩ = some (.slice V k vc) ∧ w'.cell? ⟨w.heap.size + 1, 0, none⟩ = some (.int .i64 x) ∧ w'.cell? ⟨w.heap.size + 1, 1, none⟩ = some (.slice U ws.length uc) ∧ w'.cell? ⟨w1.heap.size, 0, none⟩ = some (.slice (some ⟨b, 0, none⟩) rs.length rc) := fun w' h => by rw [eS] at h; exact h
        have q0_ : ∀ p : Lex.HW S, p.w.cell? ⟨w1.heap.size + 1, 0, none⟩ = some (.slice V k vc) := fun p => (exS _ p.ok).1
        have q1_ : ∀ p : Lex.HW S, p.w.cell? ⟨w.heap.size + 1, 0, none⟩ = some (.int .i64 x) := fun p => (exS _ p.ok).2.1
        have q2_ : ∀ p : Lex.HW S, p.w.cell? ⟨w.heap.size + 1, 1, none⟩ = some (.slice U ws.length uc) := fun p => (exS _ p.ok).2.2.1
        have q3_ : ∀ p : Lex.HW S, p.w.cell? ⟨w1.heap.size, 0, none⟩ = some (.slice (some ⟨b, 0, none⟩) rs.length rc) := fun p => (exS _ p.ok).2.2.2
        clear eS exS
        have MKS := Lib.hid mkS; clear mkS sS
        refine Lex.wp_region_lex S 12 [([0, 1, 2, 3, 5, 6], some 4), ([], some 7), ([8], some 9), ([], some 10), ([11], some 12)] (by kernel_rfl) (by kernel_rfl) (fun _ _ d _ _ h => by cases d <;> exact h) (MKS.out _ c7 cp0 cp1 c6) ?_
        refine Lex.lexW_some (os := ?_) (o := ?_) (by simp only [List.filterMap_cons, List.filterMap_nil, List.getElem?_toArray, List.getElem?_cons_zero, List.getElem?_cons_succ]; rfl) (by simp only [List.getElem?_toArray, List.getElem?_cons_zero, List.getElem?_cons_succ]; rfl) ?_
        repeat (first | go_big_quiet_step (fail) | quiet_step (fail))
        refine wpQuiet_nil ?_
        intro K hK
        have HK := Lib.hid hK; clear hK
        go_wp2_with fail
        have hA : Below wr.heap.size wr ((wr.drewN (nq + 1)).alloc (.cells #[] 3)) := ((below_drewN (Below.refl _ _) _).alloc (by simp) _)
        have HA := Lib.hid hA; clear hA
        refine HK.out _ _ (fun _ => MKS.out _ (cell_below HA.out c7) (cell_below HA.out cp0) (cell_below HA.out cp1) (cell_below HA.out c6)) ?_
        clear HK K
        refine Lex.lexW_some (os := ?_) (o := ?_) (by simp only [List.filterMap_nil]; rfl) (by simp only [List.getElem?_toArray, List.getElem?_cons_zero, List.getElem?_cons_succ]; rfl) ?_
        repeat (first | go_big_quiet_step (fail) | quiet_step (fail))
        refine wpQuiet_nil ?_
        intro K hK
        have HK := Lib.hid hK; clear hK
        refine app_ints _ rfl (.tmp 58) (.tmp 60) rfl (w1.heap.size + 2) (.slice (some ⟨wr.heap.size, 0, none⟩) 0 0) [] rfl (IntsOwn.empty (heap_alloc_new (wr.drewN (nq + 1)) _) (by omega)) (.slice U ws.length uc) ws rfl (((HU.out.below HB1.out).below HB.out).below HA.out) (by have := pageB_len HP.out; simp; omega) (by have := HA.out.size; omega) ?_
        intro v2 w2 ho2 hg2 hat2
        rw [List.nil_append] at ho2
        obtain ⟨A2, q2, rfl⟩ := ho2.shape
        have hB2 : Below wr.heap.size wr w2 := HA.out.grown hg2 (by have := HA.out.size; omega) (fun g hg => by simp [Value.ownBlock] at hg; omega)
        have HO2 := Lib.hid ho2; have HAT2 := Lib.hid hat2; have HB2 := Lib.hid hB2
        clear ho2 hg2 hat2 hB2
        refine HK.out _ _ (fun _ => MKS.out _ (cell_below HB2.out c7) (cell_below HB2.out cp0) (cell_below HB2.out cp1) (cell_below HB2.out c6)) ?_
        clear HK K
        refine Lex.lexW_some (os := ?_) (o := ?_) (by simp only [List.filterMap_cons, List.filterMap_nil, List.getElem?_toArray, List.getElem?_cons_zero, List.getElem?_cons_succ]; rfl) (by simp only [List.getElem?_toArray, List.getElem?_cons_zero, List.getElem?_cons_succ]; rfl) ?_
        repeat (first | go_big_quiet_step (fail) | quiet_step (fail))
        refine wpQuiet_nil ?_
        intro K hK
        have HK := Lib.hid hK; clear hK
        go_wp2_with fail
        have hA2 : Below wr.heap.size wr (w2.alloc (.cells #[.int .i64 x, .slice A2 ws.length q2] 31)) := HB2.out.al _
        have HA2 := Lib.hid hA2; clear hA2
        refine HK.out _ _ (fun _ => MKS.out _ (cell_below HA2.out c7) (cell_below HA2.out cp0) (cell_below HA2.out cp1) (cell_below HA2.out c6)) ?_
        clear HK K
        refine Lex.lexW_some (os := ?_) (o := ?_) (by simp only [List.filterMap_nil]; rfl) (by simp only [List.getElem?_toArray, List.getElem?_cons_zero, List.getElem?_cons_succ]; rfl) ?_
        repeat (first | go_big_quiet_step (fail) | quiet_step (fail))
        refine wpQuiet_nil ?_
        intro K hK
        have HK := Lib.hid hK; clear hK
        refine app_page _ rfl (.tmp 55) (.tmp 63) rfl (w1.heap.size + 2) (.slice V k vc) (rs.take k) (us.take k) rfl (HROW.out.below HA2.out) w2.heap.size x (.slice A2 ws.length q2) ws rfl (Box2.new _ _ _ _).cell0 (Box2.new _ _ _ _).cell1 HIX.out (HO2.out.at_.below ((Below.refl _ _).al _)) (off_new HROW.out (HAT2.out.imp (fun h => h.trans rfl) (fun h => h.trans rfl)) (Nat.le_refl _) (by simp)) (by simp; omega) (by have := HA2.out.size; omega) ?_
        intro v3 w3 ho3 hg3 hat3
        obtain ⟨V3, vc3, hv3⟩ := ho3.shape
        have hk3 : (rs.take k ++ [(x, ws)]).length = k + 1 := by simp; omega
        rw [hk3] at hv3
        subst hv3
        have hbx3 : Box w3 (w1.heap.size + 1) 24 (.slice V k vc) := (HB7.out.below HA2.out l7).keep hg3 (HROW.out.ne_ (by omega)).symm
        have hc3 := hbx3.cell; have hf3 := hbx3.frozen; have hl3 := hbx3.lt
        have HBX3 := Lib.hid hbx3; have HO3 := Lib.hid ho3; have HG3 := Lib.hid hg3; have HAT3 := Lib.hid hat3
        clear hk3 hbx3 ho3 hg3 hat3
        refine HK.out _ _ (fun _ => MKS.out _ hc3 (HG3.out.cell (cell_below HA2.out cp0) (HROW.out.neC (by omega))) (HG3.out.cell (cell_below HA2.out cp1) (HROW.out.neC (by omega))) (HG3.out.cell (cell_below HA2.out c6) (HROW.out.neC (by omega)))) ?_
        clear HK K
        refine Lex.lexW_some (os := ?_) (o := ?_) (by simp only [List.filterMap_cons, List.filterMap_nil, List.getElem?_toArray, List.getElem?_cons_zero, List.getElem?_cons_succ]; rfl) (by simp only [List.getElem?_toArray, List.getElem?_cons_zero, List.getElem?_cons_succ]; rfl) ?_
        repeat (first | go_big_quiet_step (fail) | quiet_step (fail))
        refine wpQuiet_nil ?_
        intro K hK
        have HK := Lib.hid hK; clear hK
        go_wp2_with fail
        refine HK.out _ _ (fun h => absurd h (by decide)) (Lex.lexW_nil ?_)
        clear HK K
        go_wp2_with fail
        have hoff3 : OffAll (rs.take k ++ [(x, ws)]) (us.take k ++ [.slice A2 ws.length q2]) w1.heap.size (w1.heap.size + 2) := ((HR.out.offNew (lo := w1.heap.size) (hi := w1.heap.size + 2) (Nat.le_refl _)).take k).snoc HROW.out.1 (fun g h1 h2 _ e => by
          rcases HAT2.out with h | h
          · rw [h] at e; simp [Value.ownBlock] at e; omega
          · rw [h] at e; simp at e; omega)
        have hr4 := HO3.out.setCell (p := ⟨w1.heap.size + 1, 0, none⟩) (x := .slice V3 (k + 1) vc3) (by simp) hoff3 (by simp) (by simp)
        have hb4 : Below w1.heap.size w1 (w3.setCell ⟨w1.heap.size + 1, 0, none⟩ (.slice V3 (k + 1) vc3)) := (((HB.out.tr HA2.out).grown HG3.out (by have := HA2.out.size; omega) (fun g hg => by have := (HROW.out.lt g hg).1; omega)).setCell (by simp) _)
        have hb6 := ((HB6.out.below HA2.out (by omega)).keep HG3.out (HROW.out.ne_ (by omega)).symm).far (p := ⟨w1.heap.size + 1, 0, none⟩) (by simp) (.slice V3 (k + 1) vc3)
        have hb7 := HBX3.out.set_ (.slice V3 (k + 1) vc3)
        have HOFF3 := Lib.hid hoff3
        clear hoff3 S ne_ q0_ q1_ q2_ q3_ MKS hc3 hf3 hl3 c6 c7 cp0 cp1 f7 l7
        rw [show w1.heap.size + 1 = w1.heap.size + 1 from rfl] at hr4
        generalize w3.setCell ⟨w1.heap.size + 1, 0, none⟩ (.slice V3 (k + 1) vc3) = w4 at hr4 hb4 hb6 hb7 ⊢
        have c6 := hb6.cell; have c7 := hb7.cell; have f7 := hb7.frozen; have l7 := hb7.lt
        have HR4 := Lib.hid hr4; have HB4 := Lib.hid hb4; have HB64 := Lib.hid hb6; have HB74 := Lib.hid hb7
        clear hr4 hb4 hb6 hb7
        obtain ⟨S, eS⟩ : ∃ S : World → Prop, S = fun w' => w'.cell? ⟨w1.heap.size + 1, 0, none⟩ = some (.slice V3 (k + 1) vc3) ∧ w'.cell? ⟨w1.heap.size, 0, none⟩ = some (.slice (some ⟨b, 0, none⟩) rs.length rc) := ⟨_, rfl⟩
        have mkS : ∀ w' : World, w'.cell? ⟨w1.heap.size + 1, 0, none⟩ = some (.slice V3 (k + 1) vc3) → w'.cell? ⟨w1.heap.size, 0, none⟩ = some (.slice (some ⟨b, 0, none⟩) rs.length rc) → S w' := fun w' g0 g1 => by rw [eS]; exact ⟨g0, g1⟩
        have sS := mkS _ c7 c6
        have ne_ : Nonempty (Lex.HW S) := ⟨⟨_, sS⟩⟩
        have exS : ∀ w' : World, S w' → w'.cell? ⟨w1.heap.size + 1, 0, none⟩ = some (.slice V3 (k + 1) vc3) ∧ w'.cell? ⟨w1.heap.size, 0, none⟩ = some (.slice (some ⟨b, 0, none⟩) rs.length rc) := fun w' h => by rw [eS] at h; exact h
        have q0_ : ∀ p : Lex.HW S, p.w.cell? ⟨w1.heap.size + 1, 0, none⟩ = some (.slice V3 (k + 1) vc3) := fun p => (exS _ p.ok).1
        have q1_ : ∀ p : Lex.HW S, p.w.cell? ⟨w1.heap.size, 0, none⟩ = some (.slice (some ⟨b, 0, none⟩) rs.length rc) := fun p => (exS _ p.ok).2
        clear eS exS
        have MKS := Lib.hid mkS; clear mkS sS
        refine Lex.wp_region_lex S 8 [([0, 1, 2, 3, 4, 5], some 6), ([7], some 8)] (by kernel_rfl) (by kernel_rfl) (fun _ _ d _ _ h => by cases d <;> exact h) (MKS.out _ c7 c6) ?_
        refine Lex.lexW_some (os := ?_) (o := ?_) (by simp only [List.filterMap_cons, List.filterMap_nil, List.getElem?_toArray, List.getElem?_cons_zero, List.getElem?_cons_succ]; rfl) (by simp only [List.getElem?_toArray, List.getElem?_cons_zero, List.getElem?_cons_succ]; rfl) ?_
        repeat (first | go_big_quiet_step (fail) | quiet_step (fail))
        refine wpQuiet_nil ?_
        intro K hK
        have HK := Lib.hid hK; clear hK
        refine app_pages _ rfl (.tmp 67) (.tmp 71) rfl (w1.heap.size + 2) (.slice V3 (k + 1) vc3) (rs.take k ++ [(x, ws)]) (us.take k ++ [.slice A2 ws.length q2]) rfl (HR4.out.below (Below.refl _ _).drew) (.slice (if rc = k then some ⟨b, 0, none⟩ else some ⟨b, k * 2, none⟩) (rs.length - k) (rc - k)) (rs.drop k) (us.drop k) rfl (HR.out.tail HB4.out.drew hk (fun _ => by rw [if_neg (by omega)]) (by split <;> simp)) (fun j y zs u a b hn => by
          rw [List.getElem?_drop] at a b
          obtain ⟨_, _, u', _, hu', _, _, _, hi', _⟩ := HR.out.get a
          rw [b] at hu'; cases hu'
          exact off_old hi' hn HR4.out (by omega)) (by simp; omega) (by have := HB4.out.size; simp; omega) ?_
        intro v5 w5 ho5 hg5 hat5
        obtain ⟨V5, vc5, hv5⟩ := ho5.shape
        have hk5 : (rs.take k ++ [(x, ws)] ++ rs.drop k).length = rs.length + 1 := by simp; omega
        rw [hk5] at hv5
        subst hv5
        have hbx5 : Box w5 (w1.heap.size + 1) 24 (.slice V3 (k + 1) vc3) := HB74.out.drew.keep hg5 (HR4.out.ne_ (by omega)).symm
        have hbr5 : Box w5 (w.heap.size + 2) 24 (.slice none 0 0) := (HBR1.out.below HB4.out HBR1.out.lt).drew.keep hg5 (HR4.out.ne_ (by omega)).symm
        have hb5 : Below w1.heap.size w1 w5 := HB4.out.drew.grown hg5 HB4.out.size (fun g hg => by have := (HR4.out.lt g hg).1; omega)
        have hc5 := hbx5.cell; have hf5 := hbx5.frozen; have hl5' := hbx5.lt
        have hcr5 := hbr5.cell; have hfr5 := hbr5.frozen
        have HBX5 := Lib.hid hbx5; have HBR5 := Lib.hid hbr5; have HO5 := Lib.hid ho5; have HG5 := Lib.hid hg5; have HB5 := Lib.hid hb5
        clear hk5 hbx5 hbr5 ho5 hg5 hat5 hb5
        refine HK.out _ _ (fun _ => MKS.out _ hc5 (HG5.out.cell c6 (HR4.out.neC (by omega)))) ?_
        clear HK K
        refine Lex.lexW_some (os := ?_) (o := ?_) (by simp only [List.filterMap_cons, List.filterMap_nil, List.getElem?_toArray, List.getElem?_cons_zero, List.getElem?_cons_succ]; rfl) (by simp only [List.getElem?_toArray, List.getElem?_cons_zero, List.getElem?_cons_succ]; rfl) ?_
        repeat (first | go_big_quiet_step (fail) | quiet_step (fail))
        refine wpQuiet_nil ?_
        intro K hK
        have HK := Lib.hid hK; clear hK
        go_wp2_with fail
        refine HK.out _ _ (fun h => absurd h (by decide)) (Lex.lexW_nil ?_)
        clear HK K
        go_wp2_with fail
        have hx5 := HBX5.out.set_ (.slice V5 (rs.length + 1) vc5)
        have hr5 := HBR5.out.far (p := ⟨w1.heap.size + 1, 0, none⟩) (by simp; omega) (.slice V5 (rs.length + 1) vc5)
        have hcS := (hr5.set_ (.slice V5 (rs.length + 1) vc5)).cell
        have hnew : ∀ g, (Value.slice A2 ws.length q2).ownBlock = some g → wr.heap.size ≤ g := fun g e => by
          rcases HAT2.out with h | h
          · rw [h] at e; simp [Value.ownBlock] at e; omega
          · rw [h] at e; simp at e; omega
        have ho1 : OffAll (rs.take k ++ [(x, ws)] ++ rs.drop k) (us.take k ++ [.slice A2 ws.length q2] ++ us.drop k) w1.heap.size (w1.heap.size + 2) := HOFF3.out.append ((HR.out.offNew (Nat.le_refl _)).drop k) HR4.out.1
        have hg0 : OffAll rs us (w.heap.size + 2) (w.heap.size + 3) := OffAll.of_ge HGE.out (by omega)
        have ho2 : OffAll (rs.take k ++ [(x, ws)] ++ rs.drop k) (us.take k ++ [.slice A2 ws.length q2] ++ us.drop k) (w.heap.size + 2) (w.heap.size + 3) :=
          ((hg0.take k).snoc (x := x) HROW.out.1 (fun g h1 h2 _ e => by have := hnew g e; omega)).append (hg0.drop k) HR4.out.1
        have hf := (HO5.out.setCell (p := ⟨w1.heap.size + 1, 0, none⟩) (x := .slice V5 (rs.length + 1) vc5) (by simp) ho1 (by simp) (by simp)).setCell (p := ⟨w.heap.size + 2, 0, none⟩) (x := .slice V5 (rs.length + 1) vc5) (by simp; omega) ho2 (by simp) (by simp)
        refine bodyPost_ret (v := .tuple #[.agg #[.slice V5 (rs.length + 1) vc5], .int .i64 0]) ?_ rfl ?_
        · simp [results, Try.results27, go_sem, hcS]
        have hgea : GeAll (rs.take k ++ [(x, ws)] ++ rs.drop k) (us.take k ++ [.slice A2 ws.length q2] ++ us.drop k) w.heap.size := by
          have hg1 : GeAll rs us w.heap.size := GeAll.mono HGE.out (by omega)
          exact GeAll.append (snoc_all HROW.out.1 (hg1.take k) (fun g e => by have := hnew g e; omega)) (hg1.drop k) HR4.out.1
        refine ⟨_, _, _, rfl, ?_, hf.base (by omega), hgea, ?_⟩
        · rw [← HRS.out]
          exact ⟨k, hk, HLO.out, HSTOP.out, rfl⟩
        · exact (((HB1.out.tr HB5.out).setCell (by simp <;> omega) _).setCell (by simp <;> omega) _)
      · have hk1 : decide ((k : Int) < (rs.length : Int)) = false := by simp; omega
        have hk2 : decide (k < rs.length) = false := by simp; omega
        clear hstop
        go_wp2_with fail
        go_quiet (fail)
        go_wp2_with fail
        obtain ⟨S, eS⟩ : ∃ S : World → Prop, S = fun w' => w'.cell? ⟨w1.heap.size + 1, 0, none⟩ = some (.slice V k vc) ∧ w'.cell? ⟨w.heap.size + 1, 0, none⟩ = some (.int .i64 x) ∧ w'.cell? ⟨w.heap.size + 1, 1, none⟩ = some (.slice U ws.length uc) ∧ w'.cell? ⟨w1.heap.size, 0, none⟩ = some (.slice R rs.length rc) := ⟨_, rfl⟩
        have mkS : ∀ w' : World, w'.cell? ⟨w1.heap.size + 1, 0, none⟩ = some (.slice V k vc) → w'.cell? ⟨w.heap.size + 1, 0, none⟩ = some (.int .i64 x) → w'.cell? ⟨w.heap.size + 1, 1, none⟩ = some (.slice U ws.length uc) → w'.cell? ⟨w1.heap.size, 0, none⟩ = some (.slice R rs.length rc) → S w' := fun w' g0 g1 g2 g3 => by rw [eS]; exact ⟨g0, g1, g2, g3⟩
        have sS := mkS _ c7 cp0 cp1 c6
        have ne_ : Nonempty (Lex.HW S) := ⟨⟨_, sS⟩⟩
        have exS : ∀ w' : World, S w' → w'.cell? ⟨w1.heap.size + 1, 0, none⟩ = some (.slice V k vc) ∧ w'.cell? ⟨w.heap.size + 1, 0, none⟩ = some (.int .i64 x) ∧ w'.cell? ⟨w.heap.size + 1, 1, none⟩ = some (.slice U ws.length uc) ∧ w'.cell? ⟨w1.heap.size, 0, none⟩ = some (.slice R rs.length rc) := fun w' h => by rw [eS] at h; exact h
        have q0_ : ∀ p : Lex.HW S, p.w.cell? ⟨w1.heap.size + 1, 0, none⟩ = some (.slice V k vc) := fun p => (exS _ p.ok).1
        have q1_ : ∀ p : Lex.HW S, p.w.cell? ⟨w.heap.size + 1, 0, none⟩ = some (.int .i64 x) := fun p => (exS _ p.ok).2.1
        have q2_ : ∀ p : Lex.HW S, p.w.cell? ⟨w.heap.size + 1, 1, none⟩ = some (.slice U ws.length uc) := fun p => (exS _ p.ok).2.2.1
        have q3_ : ∀ p : Lex.HW S, p.w.cell? ⟨w1.heap.size, 0, none⟩ = some (.slice R rs.length rc) := fun p => (exS _ p.ok).2.2.2
        clear eS exS
        have MKS := Lib.hid mkS; clear mkS sS
        refine Lex.wp_region_lex S 12 [([0, 1, 2, 3, 5, 6], some 4), ([], some 7), ([8], some 9), ([], some 10), ([11], some 12)] (by kernel_rfl) (by kernel_rfl) (fun _ _ d _ _ h => by cases d <;> exact h) (MKS.out _ c7 cp0 cp1 c6) ?_
        refine Lex.lexW_some (os := ?_) (o := ?_) (by simp only [List.filterMap_cons, List.filterMap_nil, List.getElem?_toArray, List.getElem?_cons_zero, List.getElem?_cons_succ]; rfl) (by simp only [List.getElem?_toArray, List.getElem?_cons_zero, List.getElem?_cons_succ]; rfl) ?_
        repeat (first | go_big_quiet_step (fail) | quiet_step (fail))
        refine wpQuiet_nil ?_
        intro K hK
        have HK := Lib.hid hK; clear hK
        go_wp2_with fail
        have hA : Below wr.heap.size wr ((wr.drewN (nq + 1)).alloc (.cells #[] 3)) := ((below_drewN (Below.refl _ _) _).alloc (by simp) _)
        have HA := Lib.hid hA; clear hA
        refine HK.out _ _ (fun _ => MKS.out _ (cell_below HA.out c7) (cell_below HA.out cp0) (cell_below HA.out cp1) (cell_below HA.out c6)) ?_
        clear HK K
        refine Lex.lexW_some (os := ?_) (o := ?_) (by simp only [List.filterMap_nil]; rfl) (by simp only [List.getElem?_toArray, List.getElem?_cons_zero, List.getElem?_cons_succ]; rfl) ?_
        repeat (first | go_big_quiet_step (fail) | quiet_step (fail))
        refine wpQuiet_nil ?_
        intro K hK
        have HK := Lib.hid hK; clear hK
        refine app_ints _ rfl (.tmp 58) (.tmp 60) rfl (w1.heap.size + 2) (.slice (some ⟨wr.heap.size, 0, none⟩) 0 0) [] rfl (IntsOwn.empty (heap_alloc_new (wr.drewN (nq + 1)) _) (by omega)) (.slice U ws.length uc) ws rfl (((HU.out.below HB1.out).below HB.out).below HA.out) (by have := pageB_len HP.out; simp; omega) (by have := HA.out.size; omega) ?_
        intro v2 w2 ho2 hg2 hat2
        rw [List.nil_append] at ho2
        obtain ⟨A2, q2, rfl⟩ := ho2.shape
        have hB2 : Below wr.heap.size wr w2 := HA.out.grown hg2 (by have := HA.out.size; omega) (fun g hg => by simp [Value.ownBlock] at hg; omega)
        have HO2 := Lib.hid ho2; have HAT2 := Lib.hid hat2; have HB2 := Lib.hid hB2
        clear ho2 hg2 hat2 hB2
        refine HK.out _ _ (fun _ => MKS.out _ (cell_below HB2.out c7) (cell_below HB2.out cp0) (cell_below HB2.out cp1) (cell_below HB2.out c6)) ?_
        clear HK K
        refine Lex.lexW_some (os := ?_) (o := ?_) (by simp only [List.filterMap_cons, List.filterMap_nil, List.getElem?_toArray, List.getElem?_cons_zero, List.getElem?_cons_succ]; rfl) (by simp only [List.getElem?_toArray, List.getElem?_cons_zero, List.getElem?_cons_succ]; rfl) ?_
        repeat (first | go_big_quiet_step (fail) | quiet_step (fail))
        refine wpQuiet_nil ?_
        intro K hK
        have HK := Lib.hid hK; clear hK
        go_wp2_with fail
        have hA2 : Below wr.heap.size wr (w2.alloc (.cells #[.int .i64 x, .slice A2 ws.length q2] 31)) := HB2.out.al _
        have HA2 := Lib.hid hA2; clear hA2
        refine HK.out _ _ (fun _ => MKS.out _ (cell_below HA2.out c7) (cell_below HA2.out cp0) (cell_below HA2.out cp1) (cell_below HA2.out c6)) ?_
        clear HK K
        refine Lex.lexW_some (os := ?_) (o := ?_) (by simp only [List.filterMap_nil]; rfl) (by simp only [List.getElem?_toArray, List.getElem?_cons_zero, List.getElem?_cons_succ]; rfl) ?_
        repeat (first | go_big_quiet_step (fail) | quiet_step (fail))
        refine wpQuiet_nil ?_
        intro K hK
        have HK := Lib.hid hK; clear hK
        refine app_page _ rfl (.tmp 55) (.tmp 63) rfl (w1.heap.size + 2) (.slice V k vc) (rs.take k) (us.take k) rfl (HROW.out.below HA2.out) w2.heap.size x (.slice A2 ws.length q2) ws rfl (Box2.new _ _ _ _).cell0 (Box2.new _ _ _ _).cell1 HIX.out (HO2.out.at_.below ((Below.refl _ _).al _)) (off_new HROW.out (HAT2.out.imp (fun h => h.trans rfl) (fun h => h.trans rfl)) (Nat.le_refl _) (by simp)) (by simp; omega) (by have := HA2.out.size; omega) ?_
        intro v3 w3 ho3 hg3 hat3
        obtain ⟨V3, vc3, hv3⟩ := ho3.shape
        have hk3 : (rs.take k ++ [(x, ws)]).length = k + 1 := by simp; omega
        rw [hk3] at hv3
        subst hv3
        have hbx3 : Box w3 (w1.heap.size + 1) 24 (.slice V k vc) := (HB7.out.below HA2.out l7).keep hg3 (HROW.out.ne_ (by omega)).symm
        have hc3 := hbx3.cell; have hf3 := hbx3.frozen; have hl3 := hbx3.lt
        have HBX3 := Lib.hid hbx3; have HO3 := Lib.hid ho3; have HG3 := Lib.hid hg3; have HAT3 := Lib.hid hat3
        clear hk3 hbx3 ho3 hg3 hat3
        refine HK.out _ _ (fun _ => MKS.out _ hc3 (HG3.out.cell (cell_below HA2.out cp0) (HROW.out.neC (by omega))) (HG3.out.cell (cell_below HA2.out cp1) (HROW.out.neC (by omega))) (HG3.out.cell (cell_below HA2.out c6) (HROW.out.neC (by omega)))) ?_
        clear HK K
        refine Lex.lexW_some (os := ?_) (o := ?_) (by simp only [List.filterMap_cons, List.filterMap_nil, List.getElem?_toArray, List.getElem?_cons_zero, List.getElem?_cons_succ]; rfl) (by simp only [List.getElem?_toArray, List.getElem?_cons_zero, List.getElem?_cons_succ]; rfl) ?_
        repeat (first | go_big_quiet_step (fail) | quiet_step (fail))
        refine wpQuiet_nil ?_
        intro K hK
        have HK := Lib.hid hK; clear hK
        go_wp2_with fail
        refine HK.out _ _ (fun h => absurd h (by decide)) (Lex.lexW_nil ?_)
        clear HK K
        go_wp2_with fail
        have hoff3 : OffAll (rs.take k ++ [(x, ws)]) (us.take k ++ [.slice A2 ws.length q2]) w1.heap.size (w1.heap.size + 2) := ((HR.out.offNew (lo := w1.heap.size) (hi := w1.heap.size + 2) (Nat.le_refl _)).take k).snoc HROW.out.1 (fun g h1 h2 _ e => by
          rcases HAT2.out with h | h
          · rw [h] at e; simp [Value.ownBlock] at e; omega
          · rw [h] at e; simp at e; omega)
        have hr4 := HO3.out.setCell (p := ⟨w1.heap.size + 1, 0, none⟩) (x := .slice V3 (k + 1) vc3) (by simp) hoff3 (by simp) (by simp)
        have hb4 : Below w1.heap.size w1 (w3.setCell ⟨w1.heap.size + 1, 0, none⟩ (.slice V3 (k + 1) vc3)) := (((HB.out.tr HA2.out).grown HG3.out (by have := HA2.out.size; omega) (fun g hg => by have := (HROW.out.lt g hg).1; omega)).setCell (by simp) _)
        have hb6 := ((HB6.out.below HA2.out (by omega)).keep HG3.out (HROW.out.ne_ (by omega)).symm).far (p := ⟨w1.heap.size + 1, 0, none⟩) (by simp) (.slice V3 (k + 1) vc3)
        have hb7 := HBX3.out.set_ (.slice V3 (k + 1) vc3)
        have HOFF3 := Lib.hid hoff3
        clear hoff3 S ne_ q0_ q1_ q2_ q3_ MKS hc3 hf3 hl3 c6 c7 cp0 cp1 f7 l7
        rw [show w1.heap.size + 1 = w1.heap.size + 1 from rfl] at hr4
        generalize w3.setCell ⟨w1.heap.size + 1, 0, none⟩ (.slice V3 (k + 1) vc3) = w4 at hr4 hb4 hb6 hb7 ⊢
        have c6 := hb6.cell; have c7 := hb7.cell; have f7 := hb7.frozen; have l7 := hb7.lt
        have HR4 := Lib.hid hr4; have HB4 := Lib.hid hb4; have HB64 := Lib.hid hb6; have HB74 := Lib.hid hb7
        clear hr4 hb4 hb6 hb7
        rcases HR.out.shape2 with ⟨rfl, hr0, rfl⟩ | ⟨b, rfl⟩
        · have hkz : k ≤ 0 := by omega
          have hkr : (0 : Nat) = k := by omega
          have HKR := Lib.hid hkr; have HR0 := Lib.hid hr0; clear hkr hr0
          have hz : rs.length ≤ 0 := by omega
          obtain ⟨S, eS⟩ : ∃ S : World → Prop, S = fun w' => w'.cell? ⟨w1.heap.size + 1, 0, none⟩ = some (.slice V3 (k + 1) vc3) ∧ w'.cell? ⟨w1.heap.size, 0, none⟩ = some (.slice none rs.length 0) := ⟨_, rfl⟩
          have mkS : ∀ w' : World, w'.cell? ⟨w1.heap.size + 1, 0, none⟩ = some (.slice V3 (k + 1) vc3) → w'.cell? ⟨w1.heap.size, 0, none⟩ = some (.slice none rs.length 0) → S w' := fun w' g0 g1 => by rw [eS]; exact ⟨g0, g1⟩
          have sS := mkS _ c7 c6
          have ne_ : Nonempty (Lex.HW S) := ⟨⟨_, sS⟩⟩
          have exS : ∀ w' : World, S w' → w'.cell? ⟨w1.heap.size + 1, 0, none⟩ = some (.slice V3 (k + 1) vc3) ∧ w'.cell? ⟨w1.heap.size, 0, none⟩ = some (.slice none rs.length 0) := fun w' h => by rw [eS] at h; exact h
          have q0_ : ∀ p : Lex.HW S, p.w.cell? ⟨w1.heap.size + 1, 0, none⟩ = some (.slice V3 (k + 1) vc3) := fun p => (exS _ p.ok).1
          have q1_ : ∀ p : Lex.HW S, p.w.cell? ⟨w1.heap.size, 0, none⟩ = some (.slice none rs.length 0) := fun p => (exS _ p.ok).2
          clear eS exS
          have MKS := Lib.hid mkS; clear mkS sS
          refine Lex.wp_region_lex S 8 [([0, 1, 2, 3, 4, 5], some 6), ([7], some 8)] (by kernel_rfl) (by kernel_rfl) (fun _ _ d _ _ h => by cases d <;> exact h) (MKS.out _ c7 c6) ?_
          refine Lex.lexW_some (os := ?_) (o := ?_) (by simp only [List.filterMap_cons, List.filterMap_nil, List.getElem?_toArray, List.getElem?_cons_zero, List.getElem?_cons_succ]; rfl) (by simp only [List.getElem?_toArray, List.getElem?_cons_zero, List.getElem?_cons_succ]; rfl) ?_
          repeat (first | go_big_quiet_step (fail) | quiet_step (fail))
          refine wpQuiet_nil ?_
          intro K hK
          have HK := Lib.hid hK; clear hK
          refine app_pages _ rfl (.tmp 67) (.tmp 71) rfl (w1.heap.size + 2) (.slice V3 (k + 1) vc3) (rs.take k ++ [(x, ws)]) (us.take k ++ [.slice A2 ws.length q2]) rfl (HR4.out.below (Below.refl _ _).drew) (_) (rs.drop k) (us.drop k) rfl (by refine src_end (by omega) HR.out.1 ?_ ?_ <;> first | omega | (intro h; cases h) | (intro _; rfl) | rfl | simp) (fun j y zs u a b hn => by
            rw [List.getElem?_drop] at a b
            obtain ⟨_, _, u', _, hu', _, _, _, hi', _⟩ := HR.out.get a
            rw [b] at hu'; cases hu'
            exact off_old hi' hn HR4.out (by omega)) (by simp; omega) (by have := HB4.out.size; simp; omega) ?_
          intro v5 w5 ho5 hg5 hat5
          obtain ⟨V5, vc5, hv5⟩ := ho5.shape
          have hk5 : (rs.take k ++ [(x, ws)] ++ rs.drop k).length = rs.length + 1 := by simp; omega
          rw [hk5] at hv5
          subst hv5
          have hbx5 : Box w5 (w1.heap.size + 1) 24 (.slice V3 (k + 1) vc3) := HB74.out.drew.keep hg5 (HR4.out.ne_ (by omega)).symm
          have hbr5 : Box w5 (w.heap.size + 2) 24 (.slice none 0 0) := (HBR1.out.below HB4.out HBR1.out.lt).drew.keep hg5 (HR4.out.ne_ (by omega)).symm
          have hb5 : Below w1.heap.size w1 w5 := HB4.out.drew.grown hg5 HB4.out.size (fun g hg => by have := (HR4.out.lt g hg).1; omega)
          have hc5 := hbx5.cell; have hf5 := hbx5.frozen; have hl5' := hbx5.lt
          have hcr5 := hbr5.cell; have hfr5 := hbr5.frozen
          have HBX5 := Lib.hid hbx5; have HBR5 := Lib.hid hbr5; have HO5 := Lib.hid ho5; have HG5 := Lib.hid hg5; have HB5 := Lib.hid hb5
          clear hk5 hbx5 hbr5 ho5 hg5 hat5 hb5
          refine HK.out _ _ (fun _ => MKS.out _ hc5 (HG5.out.cell c6 (HR4.out.neC (by omega)))) ?_
          clear HK K
          refine Lex.lexW_some (os := ?_) (o := ?_) (by simp only [List.filterMap_cons, List.filterMap_nil, List.getElem?_toArray, List.getElem?_cons_zero, List.getElem?_cons_succ]; rfl) (by simp only [List.getElem?_toArray, List.getElem?_cons_zero, List.getElem?_cons_succ]; rfl) ?_
          repeat (first | go_big_quiet_step (fail) | quiet_step (fail))
          refine wpQuiet_nil ?_
          intro K hK
          have HK := Lib.hid hK; clear hK
          go_wp2_with fail
          refine HK.out _ _ (fun h => absurd h (by decide)) (Lex.lexW_nil ?_)
          clear HK K
          go_wp2_with fail
          have hx5 := HBX5.out.set_ (.slice V5 (rs.length + 1) vc5)
          have hr5 := HBR5.out.far (p := ⟨w1.heap.size + 1, 0, none⟩) (by simp; omega) (.slice V5 (rs.length + 1) vc5)
          have hcS := (hr5.set_ (.slice V5 (rs.length + 1) vc5)).cell
          have hnew : ∀ g, (Value.slice A2 ws.length q2).ownBlock = some g → wr.heap.size ≤ g := fun g e => by
            rcases HAT2.out with h | h
            · rw [h] at e; simp [Value.ownBlock] at e; omega
            · rw [h] at e; simp at e; omega
          have ho1 : OffAll (rs.take k ++ [(x, ws)] ++ rs.drop k) (us.take k ++ [.slice A2 ws.length q2] ++ us.drop k) w1.heap.size (w1.heap.size + 2) := HOFF3.out.append ((HR.out.offNew (Nat.le_refl _)).drop k) HR4.out.1
          have hg0 : OffAll rs us (w.heap.size + 2) (w.heap.size + 3) := OffAll.of_ge HGE.out (by omega)
          have ho2 : OffAll (rs.take k ++ [(x, ws)] ++ rs.drop k) (us.take k ++ [.slice A2 ws.length q2] ++ us.drop k) (w.heap.size + 2) (w.heap.size + 3) :=
            ((hg0.take k).snoc (x := x) HROW.out.1 (fun g h1 h2 _ e => by have := hnew g e; omega)).append (hg0.drop k) HR4.out.1
          have hf := (HO5.out.setCell (p := ⟨w1.heap.size + 1, 0, none⟩) (x := .slice V5 (rs.length + 1) vc5) (by simp) ho1 (by simp) (by simp)).setCell (p := ⟨w.heap.size + 2, 0, none⟩) (x := .slice V5 (rs.length + 1) vc5) (by simp; omega) ho2 (by simp) (by simp)
          refine bodyPost_ret (v := .tuple #[.agg #[.slice V5 (rs.length + 1) vc5], .int .i64 0]) ?_ rfl ?_
          · simp [results, Try.results27, go_sem, hcS]
          have hgea : GeAll (rs.take k ++ [(x, ws)] ++ rs.drop k) (us.take k ++ [.slice A2 ws.length q2] ++ us.drop k) w.heap.size := by
            have hg1 : GeAll rs us w.heap.size := GeAll.mono HGE.out (by omega)
            exact GeAll.append (snoc_all HROW.out.1 (hg1.take k) (fun g e => by have := hnew g e; omega)) (hg1.drop k) HR4.out.1
          refine ⟨_, _, _, rfl, ?_, hf.base (by omega), hgea, ?_⟩
          · rw [← HRS.out]
            exact ⟨k, hk, HLO.out, HSTOP.out, rfl⟩
          · exact (((HB1.out.tr HB5.out).setCell (by simp <;> omega) _).setCell (by simp <;> omega) _)
        · by_cases hck : rc = k
          · obtain rfl : k = rc := hck.symm
            obtain ⟨S, eS⟩ : ∃ S : World → Prop, S = fun w' => w'.cell? ⟨w1.heap.size + 1, 0, none⟩ = some (.slice V3 (k + 1) vc3) ∧ w'.cell? ⟨w1.heap.size, 0, none⟩ = some (.slice (some ⟨b, 0, none⟩) rs.length k) := ⟨_, rfl⟩
            have mkS : ∀ w' : World, w'.cell? ⟨w1.heap.size + 1, 0, none⟩ = some (.slice V3 (k + 1) vc3) → w'.cell? ⟨w1.heap.size, 0, none⟩ = some (.slice (some ⟨b, 0, none⟩) rs.length k) → S w' := fun w' g0 g1 => by rw [eS]; exact ⟨g0, g1⟩
            have sS := mkS _ c7 c6
            have ne_ : Nonempty (Lex.HW S) := ⟨⟨_, sS⟩⟩
            have exS : ∀ w' : World, S w' → w'.cell? ⟨w1.heap.size + 1, 0, none⟩ = some (.slice V3 (k + 1) vc3) ∧ w'.cell? ⟨w1.heap.size, 0, none⟩ = some (.slice (some ⟨b, 0, none⟩) rs.length k) := fun w' h => by rw [eS] at h; exact h
            have q0_ : ∀ p : Lex.HW S, p.w.cell? ⟨w1.heap.size + 1, 0, none⟩ = some (.slice V3 (k + 1) vc3) := fun p => (exS _ p.ok).1
            have q1_ : ∀ p : Lex.HW S, p.w.cell? ⟨w1.heap.size, 0, none⟩ = some (.slice (some ⟨b, 0, none⟩) rs.length k) := fun p => (exS _ p.ok).2
            clear eS exS
            have MKS := Lib.hid mkS; clear mkS sS
            refine Lex.wp_region_lex S 8 [([0, 1, 2, 3, 4, 5], some 6), ([7], some 8)] (by kernel_rfl) (by kernel_rfl) (fun _ _ d _ _ h => by cases d <;> exact h) (MKS.out _ c7 c6) ?_
            refine Lex.lexW_some (os := ?_) (o := ?_) (by simp only [List.filterMap_cons, List.filterMap_nil, List.getElem?_toArray, List.getElem?_cons_zero, List.getElem?_cons_succ]; rfl) (by simp only [List.getElem?_toArray, List.getElem?_cons_zero, List.getElem?_cons_succ]; rfl) ?_
            repeat (first | go_big_quiet_step (fail) | quiet_step (fail))
            refine wpQuiet_nil ?_
            intro K hK
            have HK := Lib.hid hK; clear hK
            refine app_pages _ rfl (.tmp 67) (.tmp 71) rfl (w1.heap.size + 2) (.slice V3 (k + 1) vc3) (rs.take k ++ [(x, ws)]) (us.take k ++ [.slice A2 ws.length q2]) rfl (HR4.out.below (Below.refl _ _).drew) (_) (rs.drop k) (us.drop k) rfl (by refine src_end (by omega) HR.out.1 ?_ ?_ <;> first | omega | (intro h; cases h) | rfl | simp) (fun j y zs u a b hn => by
              rw [List.getElem?_drop] at a b
              obtain ⟨_, _, u', _, hu', _, _, _, hi', _⟩ := HR.out.get a
              rw [b] at hu'; cases hu'
              exact off_old hi' hn HR4.out (by omega)) (by simp; omega) (by have := HB4.out.size; simp; omega) ?_
            intro v5 w5 ho5 hg5 hat5
            obtain ⟨V5, vc5, hv5⟩ := ho5.shape
            have hk5 : (rs.take k ++ [(x, ws)] ++ rs.drop k).length = rs.length + 1 := by simp; omega
            rw [hk5] at hv5
            subst hv5
            have hbx5 : Box w5 (w1.heap.size + 1) 24 (.slice V3 (k + 1) vc3) := HB74.out.drew.keep hg5 (HR4.out.ne_ (by omega)).symm
            have hbr5 : Box w5 (w.heap.size + 2) 24 (.slice none 0 0) := (HBR1.out.below HB4.out HBR1.out.lt).drew.keep hg5 (HR4.out.ne_ (by omega)).symm
            have hb5 : Below w1.heap.size w1 w5 := HB4.out.drew.grown hg5 HB4.out.size (fun g hg => by have := (HR4.out.lt g hg).1; omega)
            have hc5 := hbx5.cell; have hf5 := hbx5.frozen; have hl5' := hbx5.lt
            have hcr5 := hbr5.cell; have hfr5 := hbr5.frozen
            have HBX5 := Lib.hid hbx5; have HBR5 := Lib.hid hbr5; have HO5 := Lib.hid ho5; have HG5 := Lib.hid hg5; have HB5 := Lib.hid hb5
            clear hk5 hbx5 hbr5 ho5 hg5 hat5 hb5
            refine HK.out _ _ (fun _ => MKS.out _ hc5 (HG5.out.cell c6 (HR4.out.neC (by omega)))) ?_
            clear HK K
            refine Lex.lexW_some (os := ?_) (o := ?_) (by simp only [List.filterMap_cons, List.filterMap_nil, List.getElem?_toArray, List.getElem?_cons_zero, List.getElem?_cons_succ]; rfl) (by simp only [List.getElem?_toArray, List.getElem?_cons_zero, List.getElem?_cons_succ]; rfl) ?_
            repeat (first | go_big_quiet_step (fail) | quiet_step (fail))
            refine wpQuiet_nil ?_
            intro K hK
            have HK := Lib.hid hK; clear hK
            go_wp2_with fail
            refine HK.out _ _ (fun h => absurd h (by decide)) (Lex.lexW_nil ?_)
            clear HK K
            go_wp2_with fail
            have hx5 := HBX5.out.set_ (.slice V5 (rs.length + 1) vc5)
            have hr5 := HBR5.out.far (p := ⟨w1.heap.size + 1, 0, none⟩) (by simp; omega) (.slice V5 (rs.length + 1) vc5)
            have hcS := (hr5.set_ (.slice V5 (rs.length + 1) vc5)).cell
            have hnew : ∀ g, (Value.slice A2 ws.length q2).ownBlock = some g → wr.heap.size ≤ g := fun g e => by
              rcases HAT2.out with h | h
              · rw [h] at e; simp [Value.ownBlock] at e; omega
              · rw [h] at e; simp at e; omega
            have ho1 : OffAll (rs.take k ++ [(x, ws)] ++ rs.drop k) (us.take k ++ [.slice A2 ws.length q2] ++ us.drop k) w1.heap.size (w1.heap.size + 2) := HOFF3.out.append ((HR.out.offNew (Nat.le_refl _)).drop k) HR4.out.1
            have hg0 : OffAll rs us (w.heap.size + 2) (w.heap.size + 3) := OffAll.of_ge HGE.out (by omega)
            have ho2 : OffAll (rs.take k ++ [(x, ws)] ++ rs.drop k) (us.take k ++ [.slice A2 ws.length q2] ++ us.drop k) (w.heap.size + 2) (w.heap.size + 3) :=
              ((hg0.take k).snoc (x := x) HROW.out.1 (fun g h1 h2 _ e => by have := hnew g e; omega)).append (hg0.drop k) HR4.out.1
            have hf := (HO5.out.setCell (p := ⟨w1.heap.size + 1, 0, none⟩) (x := .slice V5 (rs.length + 1) vc5) (by simp) ho1 (by simp) (by simp)).setCell (p := ⟨w.heap.size + 2, 0, none⟩) (x := .slice V5 (rs.length + 1) vc5) (by simp; omega) ho2 (by simp) (by simp)
            refine bodyPost_ret (v := .tuple #[.agg #[.slice V5 (rs.length + 1) vc5], .int .i64 0]) ?_ rfl ?_
            · simp [results, Try.results27, go_sem, hcS]
            have hgea : GeAll (rs.take k ++ [(x, ws)] ++ rs.drop k) (us.take k ++ [.slice A2 ws.length q2] ++ us.drop k) w.heap.size := by
              have hg1 : GeAll rs us w.heap.size := GeAll.mono HGE.out (by omega)
              exact GeAll.append (snoc_all HROW.out.1 (hg1.take k) (fun g e => by have := hnew g e; omega)) (hg1.drop k) HR4.out.1
            refine ⟨_, _, _, rfl, ?_, hf.base (by omega), hgea, ?_⟩
            · rw [← HRS.out]
              exact ⟨k, hk, HLO.out, HSTOP.out, rfl⟩
            · exact (((HB1.out.tr HB5.out).setCell (by simp <;> omega) _).setCell (by simp <;> omega) _)
          · skip
            obtain ⟨S, eS⟩ : ∃ S : World → Prop, S = fun w' => w'.cell? ⟨w1.heap.size + 1, 0, none⟩ = some (.slice V3 (k + 1) vc3) ∧ w'.cell? ⟨w1.heap.size, 0, none⟩ = some (.slice (some ⟨b, 0, none⟩) rs.length rc) := ⟨_, rfl⟩
            have mkS : ∀ w' : World, w'.cell? ⟨w1.heap.size + 1, 0, none⟩ = some (.slice V3 (k + 1) vc3) → w'.cell? ⟨w1.heap.size, 0, none⟩ = some (.slice (some ⟨b, 0, none⟩) rs.length rc) → S w' := fun w' g0 g1 => by rw [eS]; exact ⟨g0, g1⟩
            have sS := mkS _ c7 c6
            have ne_ : Nonempty (Lex.HW S) := ⟨⟨_, sS⟩⟩
            have exS : ∀ w' : World, S w' → w'.cell? ⟨w1.heap.size + 1, 0, none⟩ = some (.slice V3 (k + 1) vc3) ∧ w'.cell? ⟨w1.heap.size, 0, none⟩ = some (.slice (some ⟨b, 0, none⟩) rs.length rc) := fun w' h => by rw [eS] at h; exact h
            have q0_ : ∀ p : Lex.HW S, p.w.cell? ⟨w1.heap.size + 1, 0, none⟩ = some (.slice V3 (k + 1) vc3) := fun p => (exS _ p.ok).1
            have q1_ : ∀ p : Lex.HW S, p.w.cell? ⟨w1.heap.size, 0, none⟩ = some (.slice (some ⟨b, 0, none⟩) rs.length rc) := fun p => (exS _ p.ok).2
            clear eS exS
            have MKS := Lib.hid mkS; clear mkS sS
            refine Lex.wp_region_lex S 8 [([0, 1, 2, 3, 4, 5], some 6), ([7], some 8)] (by kernel_rfl) (by kernel_rfl) (fun _ _ d _ _ h => by cases d <;> exact h) (MKS.out _ c7 c6) ?_
            refine Lex.lexW_some (os := ?_) (o := ?_) (by simp only [List.filterMap_cons, List.filterMap_nil, List.getElem?_toArray, List.getElem?_cons_zero, List.getElem?_cons_succ]; rfl) (by simp only [List.getElem?_toArray, List.getElem?_cons_zero, List.getElem?_cons_succ]; rfl) ?_
            repeat (first | go_big_quiet_step (fail) | quiet_step (fail))
            refine wpQuiet_nil ?_
            intro K hK
            have HK := Lib.hid hK; clear hK
            refine app_pages _ rfl (.tmp 67) (.tmp 71) rfl (w1.heap.size + 2) (.slice V3 (k + 1) vc3) (rs.take k ++ [(x, ws)]) (us.take k ++ [.slice A2 ws.length q2]) rfl (HR4.out.below (Below.refl _ _).drew) (_) (rs.drop k) (us.drop k) rfl (by refine src_end (by omega) HR.out.1 ?_ ?_ <;> first | omega | (intro h; cases h) | rfl | simp) (fun j y zs u a b hn => by
              rw [List.getElem?_drop] at a b
              obtain ⟨_, _, u', _, hu', _, _, _, hi', _⟩ := HR.out.get a
              rw [b] at hu'; cases hu'
              exact off_old hi' hn HR4.out (by omega)) (by simp; omega) (by have := HB4.out.size; simp; omega) ?_
            intro v5 w5 ho5 hg5 hat5
            obtain ⟨V5, vc5, hv5⟩ := ho5.shape
            have hk5 : (rs.take k ++ [(x, ws)] ++ rs.drop k).length = rs.length + 1 := by simp; omega
            rw [hk5] at hv5
            subst hv5
            have hbx5 : Box w5 (w1.heap.size + 1) 24 (.slice V3 (k + 1) vc3) := HB74.out.drew.keep hg5 (HR4.out.ne_ (by omega)).symm
            have hbr5 : Box w5 (w.heap.size + 2) 24 (.slice none 0 0) := (HBR1.out.below HB4.out HBR1.out.lt).drew.keep hg5 (HR4.out.ne_ (by omega)).symm
            have hb5 : Below w1.heap.size w1 w5 := HB4.out.drew.grown hg5 HB4.out.size (fun g hg => by have := (HR4.out.lt g hg).1; omega)
            have hc5 := hbx5.cell; have hf5 := hbx5.frozen; have hl5' := hbx5.lt
            have hcr5 := hbr5.cell; have hfr5 := hbr5.frozen
            have HBX5 := Lib.hid hbx5; have HBR5 := Lib.hid hbr5; have HO5 := Lib.hid ho5; have HG5 := Lib.hid hg5; have HB5 := Lib.hid hb5
            clear hk5 hbx5 hbr5 ho5 hg5 hat5 hb5
            refine HK.out _ _ (fun _ => MKS.out _ hc5 (HG5.out.cell c6 (HR4.out.neC (by omega)))) ?_
            clear HK K
            refine Lex.lexW_some (os := ?_) (o := ?_) (by simp only [List.filterMap_cons, List.filterMap_nil, List.getElem?_toArray, List.getElem?_cons_zero, List.getElem?_cons_succ]; rfl) (by simp only [List.getElem?_toArray, List.getElem?_cons_zero, List.getElem?_cons_succ]; rfl) ?_
            repeat (first | go_big_quiet_step (fail) | quiet_step (fail))
            refine wpQuiet_nil ?_
            intro K hK
            have HK := Lib.hid hK; clear hK
            go_wp2_with fail
            refine HK.out _ _ (fun h => absurd h (by decide)) (Lex.lexW_nil ?_)
            clear HK K
            go_wp2_with fail
            have hx5 := HBX5.out.set_ (.slice V5 (rs.length + 1) vc5)
            have hr5 := HBR5.out.far (p := ⟨w1.heap.size + 1, 0, none⟩) (by simp; omega) (.slice V5 (rs.length + 1) vc5)
            have hcS := (hr5.set_ (.slice V5 (rs.length + 1) vc5)).cell
            have hnew : ∀ g, (Value.slice A2 ws.length q2).ownBlock = some g → wr.heap.size ≤ g := fun g e => by
              rcases HAT2.out with h | h
              · rw [h] at e; simp [Value.ownBlock] at e; omega
              · rw [h] at e; simp at e; omega
            have ho1 : OffAll (rs.take k ++ [(x, ws)] ++ rs.drop k) (us.take k ++ [.slice A2 ws.length q2] ++ us.drop k) w1.heap.size (w1.heap.size + 2) := HOFF3.out.append ((HR.out.offNew (Nat.le_refl _)).drop k) HR4.out.1
            have hg0 : OffAll rs us (w.heap.size + 2) (w.heap.size + 3) := OffAll.of_ge HGE.out (by omega)
            have ho2 : OffAll (rs.take k ++ [(x, ws)] ++ rs.drop k) (us.take k ++ [.slice A2 ws.length q2] ++ us.drop k) (w.heap.size + 2) (w.heap.size + 3) :=
              ((hg0.take k).snoc (x := x) HROW.out.1 (fun g h1 h2 _ e => by have := hnew g e; omega)).append (hg0.drop k) HR4.out.1
            have hf := (HO5.out.setCell (p := ⟨w1.heap.size + 1, 0, none⟩) (x := .slice V5 (rs.length + 1) vc5) (by simp) ho1 (by simp) (by simp)).setCell (p := ⟨w.heap.size + 2, 0, none⟩) (x := .slice V5 (rs.length + 1) vc5) (by simp; omega) ho2 (by simp) (by simp)
            refine bodyPost_ret (v := .tuple #[.agg #[.slice V5 (rs.length + 1) vc5], .int .i64 0]) ?_ rfl ?_
            · simp [results, Try.results27, go_sem, hcS]
            have hgea : GeAll (rs.take k ++ [(x, ws)] ++ rs.drop k) (us.take k ++ [.slice A2 ws.length q2] ++ us.drop k) w.heap.size := by
              have hg1 : GeAll rs us w.heap.size := GeAll.mono HGE.out (by omega)
              exact GeAll.append (snoc_all HROW.out.1 (hg1.take k) (fun g e => by have := hnew g e; omega)) (hg1.drop k) HR4.out.1
            refine ⟨_, _, _, rfl, ?_, hf.base (by omega), hgea, ?_⟩
            · rw [← HRS.out]
              exact ⟨k, hk, HLO.out, HSTOP.out, rfl⟩
            · exact (((HB1.out.tr HB5.out).setCell (by simp <;> omega) _).setCell (by simp <;> omega) _)
end Go.Proofs.Ytgkenbjpmondeaa
