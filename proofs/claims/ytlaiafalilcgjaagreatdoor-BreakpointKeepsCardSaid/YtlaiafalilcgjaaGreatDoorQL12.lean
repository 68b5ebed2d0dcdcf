/- Proved: BreakpointKeeps -/
import Derived.Test.YtlaiafalilcgjaaGreatDoorQL10
import Derived.Test.YtlaiafalilcgjaaGreatDoorQL9
set_option linter.unusedVariables false
set_option linter.unusedSimpArgs false
namespace Go.Proofs.YtlaiafalilcgjaaGreatDoor
open Go.RowKit Go.PX
set_option maxRecDepth 100000
open Go.BK
theorem good_0 {y : Ls} {z k : Nat} {ms : List Nat} {xs : Ls} {x : List UInt8} (hm : ms[k]? = some 0) (hx : xs[k]? = some x) (h : goodM y z (ms.drop k) (xs.drop k)) : goodM y z (ms.drop (k + 1)) (xs.drop (k + 1)) := by
  rw [drop_at hm, drop_at hx] at h
  rcases h with h | h
  · exact h.2
  · omega
theorem good_1 {y : Ls} {z k m : Nat} {ms : List Nat} {xs : Ls} {x : List UInt8} (hm : ms[k]? = some m) (hx : xs[k]? = some x) (h0 : m ≠ 0) (h : goodM y z (ms.drop k) (xs.drop k)) : z < m ∧ m ≤ y.length ∧ y[m - 1]? = some x ∧ goodM y m (ms.drop (k + 1)) (xs.drop (k + 1)) := by
  rw [drop_at hm, drop_at hx] at h
  rcases h with h | h
  · exact absurd h.1 h0
  · exact h
theorem cnt_0 {k : Nat} {ms : List Nat} (hm : ms[k]? = some 0) : ((ms.take (k + 1)).filter (fun m => m != 0)).length = ((ms.take k).filter (fun m => m != 0)).length := by
  rw [List.take_add_one, hm, List.filter_append]; simp
theorem cnt_1 {k m : Nat} {ms : List Nat} (hm : ms[k]? = some m) (h0 : m ≠ 0) : ((ms.take (k + 1)).filter (fun m => m != 0)).length = ((ms.take k).filter (fun m => m != 0)).length + 1 := by
  rw [List.take_add_one, hm, List.filter_append]; simp [h0]
theorem rg_at {a n q : Nat} (h : q < n) : ((List.range' a n).map encN)[q]? = some (encN (a + q)) := by
  rw [List.getElem?_map, List.getElem?_range' h, Nat.one_mul]; rfl

set_option maxHeartbeats 1000000 in
theorem keeps_con (hA : ∀ lo top, PX.Con Tryz.prog 8 [] [] lo top (.sc (.bool true)) []) (l other : List Int) : PX.Con Tryz.prog 4 [(.imm 1 (l.map encI)), (.imm 1 (other.map encI))] [] 1 100000 (.sc (.bool true)) [] := by
  refine PX.con_intro [(.imm 1 (l.map encI)), (.imm 1 (other.map encI))] 110 Tryz.func4 rfl rfl (by kernel_rfl) (by kernel_rfl) ?_
  intro E a hE hS
  generalize E.w0 = w at hS ⊢
  have mix := mixed
  refine PX.G [] [] 1 [] [] [.au] [0, 1] [] hS hE trivial fun a w hS => ?_
  refine PX.G [⟨5, [], (.sc (PX.sV (tA l (min l.length 30))))⟩, ⟨6, [], (.sc (PX.sV (tB l other (min l.length 30))))⟩] [] 1 [.q (PX.Con Tryz.prog 9 [(.imm 1 (l.map encI)), (.imm 1 (other.map encI))] [] 1 1 (.tup [(.sc (PX.sV (tA l (min l.length 30)))), (.sc (PX.sV (tB l other (min l.length 30))))]) [])] [] [.au, .au, .cl [] (.tup [(.sc (PX.sV (tA l (min l.length 30)))), (.sc (PX.sV (tB l other (min l.length 30))))]) [] 1, .au, .au, .au, .au, .au] [5, 6] [] hS hE ⟨PX.con_any (con_texts l other), trivial⟩ fun a w hS => ?_
  have hga := tA_len l (min l.length 30); have hgb := tB_len l other (min l.length 30)
  generalize tA l (min l.length 30) = ga at hS hga; generalize tB l other (min l.length 30) = gb at hS hgb
  have hl1 := linesL_len ga; have hl2 := linesL_len gb; have hc1 := count_le_len ga 10; have hc2 := count_le_len gb 10
  obtain ⟨lx, hlx⟩ : ∃ z, linesL ga = z := ⟨_, rfl⟩; obtain ⟨ly, hly⟩ : ∃ z, linesL gb = z := ⟨_, rfl⟩
  rw [hlx] at hl1; rw [hly] at hl2
  refine PX.G [⟨7, [], (.imm 1 (lx.map encS))⟩, ⟨8, [], (.imm 1 (ly.map encS))⟩] [] 1 [.q (PX.Con Tryz.prog 16 [(.sc (PX.sV ga))] [] 1 1 (.imm 1 (lx.map encS)) []), .q (PX.Con Tryz.prog 16 [(.sc (PX.sV gb))] [] 1 1 (.imm 1 (ly.map encS)) [])] [] [.au, .cl [] (.imm 1 (lx.map encS)) [] 1, .au, .cl [] (.imm 1 (ly.map encS)) [] 1, .au, .au] [5, 6, 7, 8] [] hS hE ⟨hlx ▸ PX.con_any (con_lines ga (by omega)), hly ▸ PX.con_any (con_lines gb (by omega)), trivial⟩ fun a w hS => ?_
  refine PX.G [⟨9, [], (.imm 1 ((moveD lx ly).map encN))⟩] [] 1 [.q (PX.Con Tryz.prog 10 [(.sc (PX.sV ga)), (.sc (PX.sV gb))] [] 1 1 (.imm 1 ((moveD lx ly).map encN)) [])] [] [.au, .au, .cl [] (.imm 1 ((moveD lx ly).map encN)) [] 1, .au] [5, 7, 8, 9] [] hS hE ⟨PX.con_any (con_move ga gb lx ly hlx hly (by omega) (by omega) (by omega) (by omega) (by omega) (by omega)), trivial⟩ fun a w hS => ?_
  have hml := moveD_len lx ly; have hgood := moveD_good lx ly; have hcnt := moveD_count lx ly
  generalize moveD lx ly = mv at hS hml hgood hcnt
  refine wp_seq_k fun K1 hK1 => ?_
  refine PX.G [⟨32, [], (.sc (.bool (((mv.length : Nat) : Int) != ((lx.length : Nat) : Int))))⟩] [] 1 [.q ((.sc (.int .i64 (((mv.map encN).length : Nat) : Int)) : PX.PV) = (.sc (.int .i64 ((mv.length : Nat) : Int)))), .q ((.sc (.int .i64 (((lx.map encS).length : Nat) : Int)) : PX.PV) = (.sc (.int .i64 ((lx.length : Nat) : Int))))] [] [.au, .nm (.sc (.int .i64 ((mv.length : Nat) : Int))), .au, .nm (.sc (.int .i64 ((lx.length : Nat) : Int))), .au] [5, 7, 8, 9, 32] [] hS hE ⟨PX.nm_len (by simp), PX.nm_len (by simp), trivial⟩ fun a w hS => ?_
  refine PX.cond_s (((mv.length : Nat) : Int) != ((lx.length : Nat) : Int)) hS (by kernel_rfl) (fun h2 => ?_) (fun h2 => ?_)
  · skip
    simp [hml] at h2
  · skip
    refine wp_skip ?_
    refine hK1 _ _ ?_
    refine PX.G [⟨10, [], (.sc (.int .i64 0))⟩, ⟨11, [], (.sc (.int .i64 0))⟩] [] 1 [] [] [.au, .au] [5, 7, 8, 9, 10, 11] [] hS hE trivial fun a w hS => ?_
    refine wp_seq_k fun K3 hK3 => ?_
    refine PX.G [⟨12, [], (.sc (.int .i64 0))⟩] [] 1 [] [] [.au] [5, 7, 8, 9, 10, 11, 12] [] hS hE trivial fun a w hS => ?_
    refine wp_block ?_
    refine wp_loop_ghost (fun m4 a' w' => ∃ (k z n : Nat), m4 = mv.length - k ∧ (k ≤ mv.length ∧ goodM ly z (mv.drop (k)) (lx.drop (k)) ∧ n = ((mv.take (k)).filter (fun m => m != 0)).length) ∧ PX.Sat E 110 [⟨5, [], (.sc (PX.sV ga))⟩, ⟨7, [], (.imm 1 (lx.map encS))⟩, ⟨8, [], (.imm 1 (ly.map encS))⟩, ⟨9, [], (.imm 1 (mv.map encN))⟩, ⟨10, [], (.sc (.int .i64 ((z : Nat) : Int)))⟩, ⟨11, [], (.sc (.int .i64 ((n : Nat) : Int)))⟩, ⟨12, [], (.sc (.int .i64 ((k : Nat) : Int)))⟩] [] 1 a' w') (mv.length - 0) ⟨0, 0, 0, rfl, ⟨Nat.zero_le _, hgood, rfl⟩, (PX.canon [] _ _ 1 hS hE (by kernel_rfl) (by kernel_rfl) (by kernel_rfl))⟩ ?_
    clear hS; rintro m4 a w ⟨k, z, n, hm4, hInv, hS⟩
    refine wp_seq_k fun K5 hK5 => ?_
    refine PX.G [⟨36, [], (.sc (.bool (decide (((k : Nat) : Int) < ((mv.length : Nat) : Int)))))⟩] [] 1 [.q ((.sc (.int .i64 (((mv.map encN).length : Nat) : Int)) : PX.PV) = (.sc (.int .i64 ((mv.length : Nat) : Int))))] [] [.au, .au, .nm (.sc (.int .i64 ((mv.length : Nat) : Int))), .au] [5, 7, 8, 9, 10, 11, 12, 36] [] hS hE ⟨PX.nm_len (by simp), trivial⟩ fun a w hS => ?_
    refine PX.cond_s (decide (((k : Nat) : Int) < ((mv.length : Nat) : Int))) hS (by kernel_rfl) (fun h6 => ?_) (fun h6 => ?_)
    · skip
      refine wp_skip ?_
      refine hK5 _ _ ?_
      refine wp_seq_k fun K7 hK7 => ?_
      refine wp_block ?_
      refine wp_seq_k fun K8 hK8 => ?_
      have hkl : k < mv.length := by simpa using h6
      obtain ⟨hk1, hgd, hn⟩ := hInv
      obtain ⟨y, hy⟩ := get_of_lt hkl; obtain ⟨x, hx⟩ := get_of_lt (show k < lx.length by omega)
      refine PX.G [⟨43, [], (.sc (.bool (((y : Nat) : Int) == 0)))⟩] [] 1 [.q (((k : Nat) : Int) = ((k : Nat) : Int)), .q ((mv.map encN)[k]? = some (encN y))] [] [.au, .au, .ix k (encN y), .au, .au] [5, 7, 8, 9, 10, 11, 12, 43] [] hS hE ⟨rfl, PX.map_get hy, trivial⟩ fun a w hS => ?_
      refine PX.cond_s (((y : Nat) : Int) == 0) hS (by kernel_rfl) (fun h9 => ?_) (fun h9 => ?_)
      · skip
        refine wp_exit ?_
        refine hK7 _ _ ?_
        refine PX.G0 [⟨12, [], (.sc (.int .i64 ((k + 1 : Nat) : Int)))⟩] [] 1 [.q ((.sc (.int .i64 (IntKind.i64.wrap (((k : Nat) : Int) + 1))) : PX.PV) = (.sc (.int .i64 ((k + 1 : Nat) : Int))))] [] [.au, .nm (.sc (.int .i64 ((k + 1 : Nat) : Int))), .au] [5, 7, 8, 9, 10, 11, 12] [] hS hE ⟨PX.nm_int (by rw [IntWalk.i64_in _ (by omega)]; omega), trivial⟩ fun a w hS => ?_
        have hy0 : y = 0 := by simpa using h9
        have hy2 : mv[k]? = some 0 := hy0 ▸ hy
        exact ⟨mv.length - (k + 1), by omega, k + 1, z, n, rfl, ⟨by omega, good_0 hy2 hx hgd, by rw [cnt_0 hy2, ← hn]⟩, (PX.canon [] _ _ 1 hS hE (by kernel_rfl) (by kernel_rfl) (by kernel_rfl))⟩
      · skip
        refine wp_skip ?_
        refine hK8 _ _ ?_
        refine wp_seq_k fun K10 hK10 => ?_
        have hy0 : y ≠ 0 := by simpa using h9
        obtain ⟨g1, g2, g3, g4⟩ := good_1 hy hx hy0 hgd
        refine PX.D [⟨73, [], (.sc (.bool ((decide (((y : Nat) : Int) ≤ ((z : Nat) : Int)) || decide (((ly.length : Nat) : Int) < ((y : Nat) : Int))) || (!(x == x)))))⟩] [] 1 [.q (((k : Nat) : Int) = ((k : Nat) : Int)), .q ((mv.map encN)[k]? = some (encN y)), .q (SX.pv [(6, decide (((y : Nat) : Int) ≤ ((z : Nat) : Int))), (15, (decide (((y : Nat) : Int) ≤ ((z : Nat) : Int)) || decide (((ly.length : Nat) : Int) < ((y : Nat) : Int))))] [(6, false)] = true → PX.AllOb [.q (((k : Nat) : Int) = ((k : Nat) : Int)), .q ((mv.map encN)[k]? = some (encN y))]), .q (SX.pv [(6, decide (((y : Nat) : Int) ≤ ((z : Nat) : Int))), (15, (decide (((y : Nat) : Int) ≤ ((z : Nat) : Int)) || decide (((ly.length : Nat) : Int) < ((y : Nat) : Int))))] [(6, false)] = true → PX.AllOb [.q ((.sc (.int .i64 (((ly.map encS).length : Nat) : Int)) : PX.PV) = (.sc (.int .i64 ((ly.length : Nat) : Int))))]), .q (SX.pv [(6, decide (((y : Nat) : Int) ≤ ((z : Nat) : Int))), (15, (decide (((y : Nat) : Int) ≤ ((z : Nat) : Int)) || decide (((ly.length : Nat) : Int) < ((y : Nat) : Int))))] [(15, false)] = true → PX.AllOb [.q (((k : Nat) : Int) = ((k : Nat) : Int)), .q ((lx.map encS)[k]? = some (encS x))]), .q (SX.pv [(6, decide (((y : Nat) : Int) ≤ ((z : Nat) : Int))), (15, (decide (((y : Nat) : Int) ≤ ((z : Nat) : Int)) || decide (((ly.length : Nat) : Int) < ((y : Nat) : Int))))] [(15, false)] = true → PX.AllOb [.q (((k : Nat) : Int) = ((k : Nat) : Int)), .q ((mv.map encN)[k]? = some (encN y))]), .q (SX.pv [(6, decide (((y : Nat) : Int) ≤ ((z : Nat) : Int))), (15, (decide (((y : Nat) : Int) ≤ ((z : Nat) : Int)) || decide (((ly.length : Nat) : Int) < ((y : Nat) : Int))))] [(15, false)] = true → PX.AllOb [.q ((.sc (.int .i64 (IntKind.i64.wrap (((y : Nat) : Int) - 1))) : PX.PV) = (.sc (.int .i64 ((y - 1 : Nat) : Int))))]), .q (SX.pv [(6, decide (((y : Nat) : Int) ≤ ((z : Nat) : Int))), (15, (decide (((y : Nat) : Int) ≤ ((z : Nat) : Int)) || decide (((ly.length : Nat) : Int) < ((y : Nat) : Int))))] [(15, false)] = true → PX.AllOb [.q (((y - 1 : Nat) : Int) = ((y - 1 : Nat) : Int)), .q ((ly.map encS)[y - 1]? = some (encS x))]), .q (SX.pv [(6, decide (((y : Nat) : Int) ≤ ((z : Nat) : Int))), (15, (decide (((y : Nat) : Int) ≤ ((z : Nat) : Int)) || decide (((ly.length : Nat) : Int) < ((y : Nat) : Int))))] [(15, false)] = true → PX.AllOb [.q (PX.BinIs Tryz.prog .neq 9 (.tmp 63) (.tmp 71) (PX.sV x) (PX.sV x) (.bool (!(x == x))))])] [(6, decide (((y : Nat) : Int) ≤ ((z : Nat) : Int))), (15, (decide (((y : Nat) : Int) ≤ ((z : Nat) : Int)) || decide (((ly.length : Nat) : Int) < ((y : Nat) : Int))))] [.au, .au, .ix k (encN y), .au, .au, .au, .au, .au, .au, .ix k (encN y), .au, .au, .nm (.sc (.int .i64 ((ly.length : Nat) : Int))), .au, .pk, .au, .au, .au, .ix k (encS x), .au, .au, .au, .au, .ix k (encN y), .au, .nm (.sc (.int .i64 ((y - 1 : Nat) : Int))), .ix (y - 1) (encS x), .au, .bs (.bool (!(x == x))), .pk] [5, 7, 8, 9, 10, 11, 12, 73] [] hS mixed hE ⟨rfl, PX.map_get hy, fun hg => ⟨rfl, PX.map_get hy, trivial⟩, fun hg => ⟨PX.nm_len (by simp), trivial⟩, fun hg => ⟨rfl, PX.map_get hx, trivial⟩, fun hg => ⟨rfl, PX.map_get hy, trivial⟩, fun hg => ⟨PX.nm_int (by rw [IntWalk.i64_in _ (by omega)]; omega), trivial⟩, fun hg => ⟨rfl, PX.map_get g3, trivial⟩, fun hg => ⟨PX.str_ne _ _, trivial⟩, trivial⟩ fun a w hS => ?_
        refine PX.cond_s ((decide (((y : Nat) : Int) ≤ ((z : Nat) : Int)) || decide (((ly.length : Nat) : Int) < ((y : Nat) : Int))) || (!(x == x))) hS (by kernel_rfl) (fun h11 => ?_) (fun h11 => ?_)
        · skip
          simp at h11; omega
        · skip
          refine wp_skip ?_
          refine hK10 _ _ ?_
          refine PX.G [⟨10, [], (.sc (.int .i64 ((y : Nat) : Int)))⟩] [] 1 [.q (((k : Nat) : Int) = ((k : Nat) : Int)), .q ((mv.map encN)[k]? = some (encN y))] [] [.au, .au, .ix k (encN y), .au, .au] [5, 7, 8, 9, 10, 11, 12] [] hS hE ⟨rfl, PX.map_get hy, trivial⟩ fun a w hS => ?_
          refine PX.G0 [⟨11, [], (.sc (.int .i64 ((n + 1 : Nat) : Int)))⟩] [] 1 [.q ((.sc (.int .i64 (IntKind.i64.wrap (((n : Nat) : Int) + 1))) : PX.PV) = (.sc (.int .i64 ((n + 1 : Nat) : Int))))] [] [.au, .nm (.sc (.int .i64 ((n + 1 : Nat) : Int))), .au] [5, 7, 8, 9, 10, 11, 12] [] hS hE ⟨PX.nm_int (by have := List.length_filter_le (fun m => m != 0) (mv.take k); have := List.length_take_le k mv; rw [IntWalk.i64_in _ (by omega)]; omega), trivial⟩ fun a w hS => ?_
          refine hK7 _ _ ?_
          refine PX.G0 [⟨12, [], (.sc (.int .i64 ((k + 1 : Nat) : Int)))⟩] [] 1 [.q ((.sc (.int .i64 (IntKind.i64.wrap (((k : Nat) : Int) + 1))) : PX.PV) = (.sc (.int .i64 ((k + 1 : Nat) : Int))))] [] [.au, .nm (.sc (.int .i64 ((k + 1 : Nat) : Int))), .au] [5, 7, 8, 9, 10, 11, 12] [] hS hE ⟨PX.nm_int (by rw [IntWalk.i64_in _ (by omega)]; omega), trivial⟩ fun a w hS => ?_
          exact ⟨mv.length - (k + 1), by omega, k + 1, y, n + 1, rfl, ⟨by omega, g4, by rw [cnt_1 hy hy0, ← hn]⟩, (PX.canon [] _ _ 1 hS hE (by kernel_rfl) (by kernel_rfl) (by kernel_rfl))⟩
    · skip
      refine wp_exit ?_
      refine hK3 _ _ ?_
      have hke : k = mv.length := by have := h6; simp at this; have := hInv.1; omega
      have hn := hInv.2.2; rw [hke, List.take_length, hcnt] at hn
      replace hS := PX.sl [5, 7, 8, 9, 10, 11, 12, 36] (PX.reslot (t := 11) (.sc (.int .i64 (((lcs lx ly) : Nat) : Int))) hS rfl (fun _ _ _ _ h => (show ((.sc (.int .i64 ((n : Nat) : Int))) : PX.PV) = (.sc (.int .i64 (((lcs lx ly) : Nat) : Int))) from by rw [hn]) ▸ h))
      refine PX.G [⟨13, [], (.imm 1 ((List.range' 1 lx.length).map encN))⟩] [] 1 [.q (PX.Con Tryz.prog 10 [(.sc (PX.sV ga)), (.sc (PX.sV ga))] [] 1 1 (.imm 1 ((List.range' 1 lx.length).map encN)) [])] [] [.au, .au, .cl [] (.imm 1 ((List.range' 1 lx.length).map encN)) [] 1, .au] [7, 8, 11, 13] [] hS hE ⟨moveD_self lx ▸ PX.con_any (con_move ga ga lx lx hlx hlx (by omega) (by omega) (by omega) (by omega) (by omega) (by omega)), trivial⟩ fun a w hS => ?_
      refine wp_seq_k fun K12 hK12 => ?_
      refine PX.G [⟨14, [], (.sc (.int .i64 0))⟩] [] 1 [] [] [.au] [7, 8, 11, 13, 14] [] hS hE trivial fun a w hS => ?_
      refine wp_block ?_
      refine wp_loop_ghost (fun m13 a' w' => ∃ q : Nat, m13 = lx.length - q ∧ q ≤ lx.length ∧ True ∧ PX.Sat E 110 [⟨7, [], (.imm 1 (lx.map encS))⟩, ⟨8, [], (.imm 1 (ly.map encS))⟩, ⟨11, [], (.sc (.int .i64 (((lcs lx ly) : Nat) : Int)))⟩, ⟨13, [], (.imm 1 ((List.range' 1 lx.length).map encN))⟩, ⟨14, [], (.sc (.int .i64 ((q : Nat) : Int)))⟩] [] 1 a' w') (lx.length - 0) ⟨0, rfl, Nat.zero_le _, trivial, (PX.canon [] _ _ 1 hS hE (by kernel_rfl) (by kernel_rfl) (by kernel_rfl))⟩ ?_
      clear hS; rintro m13 a w ⟨q, hm13, hleq, hIq, hS⟩
      refine wp_seq_k fun K14 hK14 => ?_
      refine PX.G [⟨86, [], (.sc (.bool (decide (((q : Nat) : Int) < ((lx.length : Nat) : Int)))))⟩] [] 1 [.q ((.sc (.int .i64 (((lx.map encS).length : Nat) : Int)) : PX.PV) = (.sc (.int .i64 ((lx.length : Nat) : Int))))] [] [.au, .au, .nm (.sc (.int .i64 ((lx.length : Nat) : Int))), .au] [7, 8, 11, 13, 14, 86] [] hS hE ⟨PX.nm_len (by simp), trivial⟩ fun a w hS => ?_
      refine PX.cond_s (decide (((q : Nat) : Int) < ((lx.length : Nat) : Int))) hS (by kernel_rfl) (fun h15 => ?_) (fun h15 => ?_)
      · skip
        refine wp_skip ?_
        refine hK14 _ _ ?_
        refine wp_seq_k fun K16 hK16 => ?_
        refine wp_block ?_
        have hql : q < lx.length := by simpa using h15
        refine PX.G [⟨101, [], (.sc (.bool (decide ((((List.range' 1 lx.length).length : Nat) : Int) ≤ ((q : Nat) : Int)) || ((((1 + q) : Nat) : Int) != ((q + 1 : Nat) : Int)))))⟩] [] 1 [.q ((.sc (.int .i64 ((((List.range' 1 lx.length).map encN).length : Nat) : Int)) : PX.PV) = (.sc (.int .i64 (((List.range' 1 lx.length).length : Nat) : Int)))), .q (SX.pv [(4, decide ((((List.range' 1 lx.length).length : Nat) : Int) ≤ ((q : Nat) : Int)))] [(4, false)] = true → PX.AllOb [.q (((q : Nat) : Int) = ((q : Nat) : Int)), .q (((List.range' 1 lx.length).map encN)[q]? = some (encN (1 + q)))]), .q (SX.pv [(4, decide ((((List.range' 1 lx.length).length : Nat) : Int) ≤ ((q : Nat) : Int)))] [(4, false)] = true → PX.AllOb [.q ((.sc (.int .i64 (IntKind.i64.wrap (((q : Nat) : Int) + 1))) : PX.PV) = (.sc (.int .i64 ((q + 1 : Nat) : Int))))])] [(4, decide ((((List.range' 1 lx.length).length : Nat) : Int) ≤ ((q : Nat) : Int)))] [.au, .au, .nm (.sc (.int .i64 (((List.range' 1 lx.length).length : Nat) : Int))), .au, .au, .au, .au, .ix q (encN (1 + q)), .au, .au, .nm (.sc (.int .i64 ((q + 1 : Nat) : Int))), .au, .pk] [7, 8, 11, 13, 14, 101] [] hS hE ⟨PX.nm_len (by simp), fun hg => ⟨rfl, rg_at hql, trivial⟩, fun hg => ⟨PX.nm_int (by rw [IntWalk.i64_in _ (by omega)]; omega), trivial⟩, trivial⟩ fun a w hS => ?_
        refine PX.cond_s (decide ((((List.range' 1 lx.length).length : Nat) : Int) ≤ ((q : Nat) : Int)) || ((((1 + q) : Nat) : Int) != ((q + 1 : Nat) : Int))) hS (by kernel_rfl) (fun h17 => ?_) (fun h17 => ?_)
        · skip
          simp at h17; omega
        · skip
          refine wp_skip ?_
          refine hK16 _ _ ?_
          refine PX.G0 [⟨14, [], (.sc (.int .i64 ((q + 1 : Nat) : Int)))⟩] [] 1 [.q ((.sc (.int .i64 (IntKind.i64.wrap (((q : Nat) : Int) + 1))) : PX.PV) = (.sc (.int .i64 ((q + 1 : Nat) : Int))))] [] [.au, .nm (.sc (.int .i64 ((q + 1 : Nat) : Int))), .au] [7, 8, 11, 13, 14] [] hS hE ⟨PX.nm_int (by rw [IntWalk.i64_in _ (by omega)]; omega), trivial⟩ fun a w hS => ?_
          exact ⟨lx.length - (q + 1), by omega, q + 1, rfl, by omega, trivial, (PX.canon [] _ _ 1 hS hE (by kernel_rfl) (by kernel_rfl) (by kernel_rfl))⟩
      · skip
        refine wp_exit ?_
        refine hK12 _ _ ?_
        refine PX.G [⟨4, [], (.sc (.bool (((((lcs lx ly) : Nat) : Int) == (((lcs lx ly) : Nat) : Int)) && true)))⟩] [] 1 [.q (PX.Con Tryz.prog 17 [(.imm 1 (lx.map encS)), (.imm 1 (ly.map encS))] [] 1 1 (.sc (.int .i64 (((lcs lx ly) : Nat) : Int))) []), .q (SX.pv [(5, ((((lcs lx ly) : Nat) : Int) == (((lcs lx ly) : Nat) : Int)))] [(5, true)] = true → PX.AllOb [.q (PX.Con Tryz.prog 8 [] [] 1 1 (.sc (.bool true)) [])])] [(5, ((((lcs lx ly) : Nat) : Int) == (((lcs lx ly) : Nat) : Int)))] [.au, .au, .au, .cl [] (.sc (.int .i64 (((lcs lx ly) : Nat) : Int))) [] 1, .au, .au, .cl [] (.sc (.bool true)) [] 1, .pk, .au] [4] [] hS hE ⟨PX.con_any (con_longest lx ly (by omega) (by omega)), fun hg => ⟨hA _ _, trivial⟩, trivial⟩ fun a w hS => ?_
        refine wp_ret ?_
        try simp only [Exit.then, Exit.inBlock, Nat.reduceEqDiff, ↓reduceIte]
        rw [show (.sc (.bool true)) = ((.sc (.bool (((((lcs lx ly) : Nat) : Int) == (((lcs lx ly) : Nat) : Int)) && true))) : PX.PV) from by simp]
        exact PX.ret_s hS hE (by kernel_rfl) (by kernel_rfl) (by kernel_rfl) (.inl rfl)
end Go.Proofs.YtlaiafalilcgjaaGreatDoor
