/- Proved: slices.Insert of one page into a row of pages that has no room. -/
import Derived.Test.YtgkenbjpmondeaaInsL
import Derived.Test.YtgkenbjpmondeaaLexB
namespace Go.Proofs.Ytgkenbjpmondeaa
open Go.RowKit

def InsPost (ps : List Pg) (us : List Value) (B i : Nat) (x : Int) (u : Value) (ws : List Int) (g : Nat) (w : World) (e : Ending) (w' : World) : Prop :=
  ∃ v, e = .returned v ∧ PagesRow w' B v (ps.take i ++ [(x, ws)] ++ ps.drop i) (us.take i ++ [u] ++ us.drop i) ∧ w.grownBy w' (some g) ∧ (v.ownBlock = some g ∨ v.ownBlock = some w.heap.size)

theorem grown_trans {a b c : World} {r : Option Nat} (h : a.grownBy b r) (k : b.grownBy c r) : a.grownBy c r :=
  ⟨k.os.trans h.os, k.tape.trans h.tape, k.output.trans h.output, Nat.le_trans h.size k.size, fun i hi hne => (k.block i (Nat.lt_of_lt_of_le hi h.size) hne).trans (h.block i hi hne)⟩

set_option maxRecDepth 100000 in
set_option maxHeartbeats 2000000 in
theorem insert_end (B g hh : Nat) (ps : List Pg) (us : List Value) (x : Int) (u : Value) (ws : List Int) (w : World) (hrow : PagesRow w B (.slice (some ⟨g, 0, none⟩) ps.length ps.length) ps us) (hl : ps.length ≤ 100000)
    (p1 : w.cell? ⟨hh, 0, none⟩ = some (.int .i64 x)) (p2 : w.cell? ⟨hh, 1, none⟩ = some u) (hi : I64 x) (hu : IntsAt w u ws) (hne : Off u ws (some g)) (hB : B ≤ w.heap.size) :
    Calls Try.prog 40 #[.slice (some ⟨g, 0, none⟩) ps.length ps.length, .int .i64 ps.length, .slice (some ⟨hh, 0, none⟩) 1 1] w (InsPost ps us B ps.length x u ws g w) := by
  have HROW := Lib.hid hrow; have HU := Lib.hid hu; have HNE := Lib.hid hne; have HI := Lib.hid hi
  clear hrow hu hne hi
  go_enter Try.func40, Try.ntmps40
  go_wp2_with (at_builtin; refine app_page _ rfl (.tmp 23) (.tmp 24) rfl B (.slice (some ⟨g, 0, none⟩) ps.length ps.length) ps us rfl HROW.out hh x u ws rfl p1 p2 HI.out HU.out HNE.out (by omega) hB ?_; intro v2 w2 ho2 hg2 hat2; have HO2 := Lib.hid ho2; have HG2 := Lib.hid hg2; have HAT2 := Lib.hid hat2; clear ho2 hg2 hat2)
  go_ret
  have hul := HROW.out.1
  refine ⟨v2, rfl, ?_, HG2.out, HAT2.out⟩
  rw [List.take_of_length_le (Nat.le_refl _), List.drop_eq_nil_of_le (Nat.le_refl _), List.append_nil, List.take_of_length_le (by omega), List.drop_eq_nil_of_le (by omega), List.append_nil]
  exact HO2.out

/-- what the row is when all is copied -/
theorem ins_done {w w4 : World} {B g N i c : Nat} {ps : List Pg} {us : List Value} {cs rest : List Value} {x : Int} {u : Value} {ws : List Int} (hul : us.length = ps.length)
    (hcs : ∀ (k : Nat) (y : Int) (zs : List Int), ps[k]? = some (y, zs) → I64 y ∧ cs[k * 2]? = some (.int .i64 y) ∧ ∃ v, us[k]? = some v ∧ cs[k * 2 + 1]? = some v ∧ IntsAt w v zs ∧ Off v zs (some g)) (hcl : cs.length = ps.length * 2) (hi : i ≤ ps.length)
    (h4 : w4.heap[N]? = some (.cells (cs.take (i * 2) ++ [.int .i64 x, u] ++ cs.drop (i * 2) ++ rest).toArray 31 (0, 0))) (hg : w.grownBy w4 none) (hx : I64 x) (hu : IntsAt w u ws) (hc : ps.length + 1 ≤ c) (hc' : c ≤ maxLen) (hrl : rest.length = (c - (ps.length + 1)) * 2) (hN : w.heap.size ≤ N) (hB : B ≤ N) :
    PagesRow w4 B (.slice (some ⟨N, 0, none⟩) (ps.length + 1) c) (ps.take i ++ [(x, ws)] ++ ps.drop i) (us.take i ++ [u] ++ us.drop i) := by
  have hlen : (ps.take i ++ [(x, ws)] ++ ps.drop i).length = ps.length + 1 := by simp; omega
  have htl : (cs.take (i * 2)).length = i * 2 := by simp; omega
  have hcl' : (cs.take (i * 2) ++ [.int .i64 x, u] ++ cs.drop (i * 2)).length = (ps.length + 1) * 2 := by simp; omega
  have keep : ∀ (v : Value) (zs : List Int), IntsAt w v zs → IntsAt w4 v zs ∧ Off v zs (some N) := fun v zs h => ⟨h.keep hg (Off.none_ h), Off.new_ h hN⟩
  refine ⟨by simp; omega, cs.take (i * 2) ++ [.int .i64 x, u] ++ cs.drop (i * 2), ⟨by rw [hlen, hcl'], .inr ⟨N, c, _, by rw [hlen], hB, h4, by rw [hlen]; exact hc, hc', ?_, ?_⟩⟩, fun k y zs hk => ?_⟩
  · rw [List.size_toArray, List.length_append, hcl', hrl]; omega
  · rw [hlen, List.take_append_of_le_length (by rw [hcl']; omega), List.take_of_length_le (by rw [hcl']; omega)]
  show I64 y ∧ _ ∧ ∃ u', _ ∧ _ ∧ IntsAt w4 u' zs ∧ Off u' zs (some N)
  rcases Nat.lt_trichotomy k i with h | h | h
  · rw [List.append_assoc, List.getElem?_append_left (by simp; omega), List.getElem?_take, if_pos h] at hk
    obtain ⟨hy, q1, v, q0, q2, q3, q4⟩ := hcs k y zs hk
    refine ⟨hy, ?_, v, ?_, ?_, keep _ _ q3⟩
    · rw [List.append_assoc, List.getElem?_append_left (by omega), List.getElem?_take, if_pos (by omega)]; exact q1
    · rw [List.append_assoc, List.getElem?_append_left (by simp; omega), List.getElem?_take, if_pos h]; exact q0
    · rw [List.append_assoc, List.getElem?_append_left (by omega), List.getElem?_take, if_pos (by omega)]; exact q2
  · subst h
    rw [List.append_assoc, List.getElem?_append_right (by simp; omega), show k - (ps.take k).length = 0 by simp; omega] at hk
    simp at hk
    obtain ⟨rfl, rfl⟩ := hk
    refine ⟨hx, ?_, u, ?_, ?_, keep _ _ hu⟩
    · rw [List.append_assoc, List.getElem?_append_right (by omega), htl]; simp
    · rw [List.append_assoc, List.getElem?_append_right (by simp; omega), show k - (us.take k).length = 0 by simp; omega]; simp
    · rw [List.append_assoc, List.getElem?_append_right (by omega), htl, show k * 2 + 1 - k * 2 = 1 by omega]; simp
  · rw [List.getElem?_append_right (by simp; omega), List.getElem?_drop, show i + (k - (ps.take i ++ [(x, ws)]).length) = k - 1 by simp; omega] at hk
    obtain ⟨hy, q1, v, q0, q2, q3, q4⟩ := hcs (k - 1) y zs hk
    refine ⟨hy, ?_, v, ?_, ?_, keep _ _ q3⟩
    · rw [List.getElem?_append_right (by simp; omega), List.getElem?_drop, ← q1]; congr 1; simp; omega
    · rw [List.getElem?_append_right (by simp; omega), List.getElem?_drop, ← q0]; congr 1; simp; omega
    · rw [List.getElem?_append_right (by simp; omega), List.getElem?_drop, ← q2]; congr 1; simp; omega

set_option maxRecDepth 100000 in
set_option maxHeartbeats 2000000 in
theorem insert_mid (B g hh i : Nat) (ps : List Pg) (us : List Value) (x : Int) (u : Value) (ws : List Int) (w : World) (hrow : PagesRow w B (.slice (some ⟨g, 0, none⟩) ps.length ps.length) ps us) (hl : ps.length ≤ 100000) (hil : i < ps.length)
    (p1 : w.cell? ⟨hh, 0, none⟩ = some (.int .i64 x)) (p2 : w.cell? ⟨hh, 1, none⟩ = some u) (hi : I64 x) (hu : IntsAt w u ws) (hB : B ≤ w.heap.size) :
    Calls Try.prog 40 #[.slice (some ⟨g, 0, none⟩) ps.length ps.length, .int .i64 i, .slice (some ⟨hh, 0, none⟩) 1 1] w (InsPost ps us B i x u ws g w) := by
  have HROW := Lib.hid hrow; have HU := Lib.hid hu; have HI := Lib.hid hi
  clear hrow hu hi
  have hi0 : (0 : Int) ≤ (i : Int) := Int.natCast_nonneg _
  have hi1 : (i : Int) < (ps.length : Int) := by omega
  have t1 : ((i : Int) == (ps.length : Int)) = false := by simp; omega
  have t2 : (i == ps.length) = false := by simp; omega
  obtain ⟨cs, hown, hcs⟩ := HROW.out.2
  have hcl : cs.length = ps.length * 2 := hown.1
  have hsrc : ∀ j v, cs[j]? = some v → w.cell? ⟨g, j, none⟩ = some v := fun j v hj => by
    rcases hown.2 with ⟨e, _⟩ | ⟨g', cap, cur, e, _, hh, _, _, _, ht⟩
    · simp at e
    · obtain rfl : g' = g := by simp at e; exact e.1.symm
      rw [cell_of_row w g' j cur 31 (0, 0) hh]
      have := (List.getElem?_eq_some_iff.1 hj).1
      rw [← ht, List.getElem?_take, if_pos (by omega)] at hj
      simpa using hj
  have HCS := Lib.hid hcs; have HCL := Lib.hid hcl; have HSRC := Lib.hid hsrc
  clear hown hcs hcl hsrc
  have hgl : g < w.heap.size := (HROW.out.lt g rfl).2
  go_enter Try.func40, Try.ntmps40
  go_wp2_with (at_builtin; refine app_zeros _ rfl (.tmp 34) (.tmp 39) rfl g i ps.length (ps.length + 1 - i) (ps.length + 1) (by omega) _ rfl rfl (by omega) (cs.take (i * 2)) (by have := HCL.out; simp; omega) (fun j v hj => HSRC.out j v (by rw [List.getElem?_take] at hj; split at hj <;> simp_all)) (by omega) (by omega) (by omega) (by omega) ?_; intro c1 w1 sp h1 h2 h3 h4 h5; have H1 := Lib.hid h1; have H2 := Lib.hid h2; have H5 := Lib.hid h5; clear h1 h2 h5)
  obtain ⟨U, uc, rfl, -, -, -⟩ := id HU.out
  have hcl := HCL.out
  have hsp := H2.out
  have htl : (cs.take (i * 2)).length = i * 2 := by simp; omega
  obtain ⟨w2, hr2, g2, gr2⟩ := run_copy2 w1 3 w.heap.size (i * 2) (ps.length + 1 - i) (c1 - i) ⟨hh, 0, none⟩ 1 1 (cs.take (i * 2) ++ sp) [.int .i64 x, .slice U ws.length uc] H1.out
    (by simp only [List.length_cons, List.length_nil]; rw [show Nat.min 1 (ps.length + 1 - i) = 1 from Nat.min_eq_left (by omega)]) (fun j v hj => by
      match j, hj with
      | 0, hj => simp at hj; subst hj; simpa [Addr.add] using cell_below H5.out p1
      | 1, hj => simp at hj; subst hj; simpa [Addr.add] using cell_below H5.out p2) (by rw [List.length_append, htl]; simp; omega) (by simp [Value.oneCell'])
  rw [hr2]
  have hL : (cs.take (i * 2) ++ sp).take (i * 2) ++ [Value.int .i64 x, .slice U ws.length uc] ++ (cs.take (i * 2) ++ sp).drop (i * 2 + [Value.int .i64 x, .slice U ws.length uc].length) = cs.take (i * 2) ++ [Value.int .i64 x, .slice U ws.length uc] ++ sp.drop 2 := by
    rw [List.take_append_of_le_length (by omega), List.take_of_length_le (by omega), List.drop_append, List.drop_eq_nil_of_le (by omega), htl]
    simp
  rw [hL] at g2
  have hgw : w.grownBy w2 none := by
    refine ⟨gr2.os.trans H5.out.os, gr2.tape.trans H5.out.tape, gr2.output.trans H5.out.output, Nat.le_trans H5.out.size gr2.size, fun j hj _ => ?_⟩
    rw [gr2.block j (by have := H5.out.size; omega) (by simp; omega)]
    exact H5.out.block j hj
  have q1 : w2.cell? ⟨hh, 0, none⟩ = some (.int .i64 x) := hgw.cell p1 (by simp)
  have G2 := Lib.hid g2; have HGW := Lib.hid hgw
  clear hr2 g2 gr2 hL hgw H1 H2 H5
  have hw1 : IntKind.i64.wrap ((i : Int) + 1) = (i : Int) + 1 := IntWalk.i64_in _ (by omega)
  have hw2 : (0 : Int) ≤ (i : Int) + 1 := by omega
  have hw3 : ((i : Int) + 1).toNat = i + 1 := by omega
  have hw4 : (i : Int) + 1 ≤ ((ps.length + 1 : Nat) : Int) := by omega
  have hw5 : (i : Int) ≤ (ps.length : Int) := by omega
  have hw6 : ((ps.length + 1 : Nat) : Int) ≤ (c1 : Int) := by omega
  go_wp2_with fail
  obtain ⟨S, eS⟩ : ∃ S : World → Prop, S = fun w' => w'.cell? ⟨hh, 0, none⟩ = some (.int .i64 x) := ⟨_, rfl⟩
  have mkS : ∀ w' : World, w'.cell? ⟨hh, 0, none⟩ = some (.int .i64 x) → S w' := fun w' g0 => by rw [eS]; exact g0
  have sS := mkS _ q1
  have ne_ : Nonempty (Lex.HW S) := ⟨⟨_, sS⟩⟩
  have exS : ∀ w' : World, S w' → w'.cell? ⟨hh, 0, none⟩ = some (.int .i64 x) := fun w' h => by rw [eS] at h; exact h
  have q0_ : ∀ p : Lex.HW S, p.w.cell? ⟨hh, 0, none⟩ = some (.int .i64 x) := fun p => (exS _ p.ok)
  clear eS exS
  have MKS := Lib.hid mkS; clear mkS sS
  refine Lex.wp_region_lex S 9 [([0, 1, 2, 3, 4, 5, 6, 7], some 8)] (by kernel_rfl) (by kernel_rfl) (fun _ _ d _ _ h => by cases d <;> exact h) (MKS.out _ q1) ?_
  refine Lex.lexW_some (os := ?_) (o := ?_) (by simp only [List.filterMap_cons, List.filterMap_nil, List.getElem?_toArray, List.getElem?_cons_zero, List.getElem?_cons_succ]; rfl) (by simp only [List.getElem?_toArray, List.getElem?_cons_zero, List.getElem?_cons_succ]; rfl) ?_
  repeat (first | go_big_quiet_step (fail) | quiet_step (fail))
  refine wpQuiet_nil ?_
  intro K hK
  have HK := Lib.hid hK; clear hK
  rw [if_neg (show ¬ c1 = i + 1 by omega), if_neg (show ¬ ps.length = i by omega)]
  have G2' : w2.drew.heap[w.heap.size]? = some (.cells (cs.take (i * 2) ++ [Value.int .i64 x, Value.slice U ws.length uc] ++ sp.drop 2).toArray 31 (0, 0)) := G2.out
  refine app_copy2 w2.drew rfl (.tmp 50) (.tmp 53) rfl w.heap.size ((i + 1) * 2) (ps.length - i) (c1 - (i + 1)) g (i * 2) (ps.length - i) (ps.length - i) rfl rfl (cs.take (i * 2) ++ [Value.int .i64 x, Value.slice U ws.length uc] ++ sp.drop 2) (cs.drop (i * 2)) G2'
    (by rw [List.length_drop, show Nat.min (ps.length - i) (ps.length - i) = ps.length - i from Nat.min_self _]; omega)
    (fun j v hj => by rw [List.getElem?_drop] at hj; exact HGW.out.cell (HSRC.out _ v hj) (by simp)) (by simp only [List.length_append, List.length_drop, List.length_cons, List.length_nil, htl]; omega) ?_ ?_
  · intro v hv
    obtain ⟨j, hj⟩ := List.mem_iff_getElem?.1 hv
    rw [List.getElem?_drop] at hj
    have hjl := (List.getElem?_eq_some_iff.1 hj).1
    obtain ⟨⟨y, zs⟩, hy⟩ := get_of_lt (show (i * 2 + j) / 2 < ps.length by omega)
    obtain ⟨-, a1, u', -, a2, a3, -⟩ := HCS.out _ y zs hy
    obtain ⟨A', c', rfl, -⟩ := a3
    rcases Nat.mod_two_eq_zero_or_one (i * 2 + j) with h0 | h0
    · rw [show (i * 2 + j) / 2 * 2 = i * 2 + j by omega, hj] at a1
      obtain rfl : v = .int .i64 y := by simpa using a1
      rfl
    · rw [show (i * 2 + j) / 2 * 2 + 1 = i * 2 + j by omega, hj] at a2
      obtain rfl : v = .slice A' zs.length c' := by simpa using a2
      rfl
  clear G2'
  intro w3 h3 gr3
  have hL : (cs.take (i * 2) ++ [Value.int .i64 x, .slice U ws.length uc] ++ sp.drop 2).take ((i + 1) * 2) = cs.take (i * 2) ++ [Value.int .i64 x, .slice U ws.length uc] := by
    rw [List.take_append_of_le_length (by simp [htl]; omega), List.take_of_length_le (by simp [htl]; omega)]
  rw [hL] at h3
  have hgw : w.grownBy w3 none := by
    refine ⟨gr3.os.trans HGW.out.os, gr3.tape.trans HGW.out.tape, gr3.output.trans HGW.out.output, Nat.le_trans HGW.out.size gr3.size, fun j hj _ => ?_⟩
    rw [gr3.block j (by have := HGW.out.size; exact Nat.lt_of_lt_of_le hj this) (by simp; omega)]
    exact HGW.out.block j hj (by simp)
  have q3 : w3.cell? ⟨hh, 0, none⟩ = some (.int .i64 x) := hgw.cell p1 (by simp)
  have HDONE := Lib.hid (ins_done (B := B) HROW.out.1 (fun k y zs hy => HCS.out k y zs hy) hcl (Nat.le_of_lt hil) h3 hgw HI.out HU.out (by omega) h4 (by simp only [List.length_drop, List.length_append, List.length_cons, List.length_nil, htl]; omega) (Nat.le_refl _) hB)
  have HGW3 := Lib.hid hgw
  clear h3 gr3 hL hgw
  refine HK.out _ _ (fun _ => MKS.out _ q3) ?_
  clear HK K
  refine Lex.lexW_nil ?_
  go_wp2_with fail
  go_ret
  exact ⟨_, rfl, HDONE.out, ⟨HGW3.out.os, HGW3.out.tape, HGW3.out.output, HGW3.out.size, fun j hj _ => HGW3.out.block j hj (by simp)⟩, .inr rfl⟩
end Go.Proofs.Ytgkenbjpmondeaa
