/- Proved: BreakpointShifts -/
import Derived.Test.YtlaiafalilcgjaaGreatDoorQL10
import Derived.Test.YtlaiafalilcgjaaGreatDoorQL7
set_option linter.unusedVariables false
set_option linter.unusedSimpArgs false
namespace Go.Proofs.YtlaiafalilcgjaaGreatDoor
open Go.RowKit Go.PX
set_option maxRecDepth 100000
open Go.BK
theorem con_nil2 {P : Program} {f : FuncId} {x r : PV} {U : Upd} {sz lo top : Nat} (h : PX.Con P f [x, .imm sz []] [] lo top r U) : PX.Con P f [x, .sc (.slice none 0 0)] [] lo top r U := fun w σ Z vs hH hv hfr => by
  refine h w σ Z vs hH ?_ hfr
  obtain ⟨u, l, rfl, h1, h2⟩ := hv.inv
  obtain ⟨u2, l2, rfl, h3, h4⟩ := h2.inv
  obtain rfl := h4.inv0
  exact .cons h1 (.cons (PX.nil_imm sz _ _ _ _ h3) .nil)
theorem news_len (k : Nat) : (news k).length = 4 * k := by
  induction k with
  | zero => rfl
  | succ k ih => rw [news_succ, List.length_append, ih]; simp [newL]; omega
theorem lates_len (k : Nat) : (lates k).length = 5 * k := by
  induction k with
  | zero => rfl
  | succ k ih => rw [lates_succ, List.length_append, ih]; simp [lateL]; omega
theorem rg_at {a n q : Nat} (h : q < n) : ((List.range' a n).map encN)[q]? = some (encN (a + q)) := by
  rw [List.getElem?_map, List.getElem?_range' h, Nat.one_mul]; rfl
theorem fol_at {a n j : Nat} (h : j < n) : followD (List.range' (a + 1) n) ((1 + j : Nat) : Int) = a + 1 + j := by
  unfold followD
  rw [if_neg (by omega), show (((1 + j : Nat) : Int) - 1).toNat = j by omega, firstN_range _ _ _ h]
theorem mod_nat {n k : Int} (h1 : 0 < k) (h2 : k ≤ 1000000) : ∃ m : Nat, modD n k = (m : Int) ∧ (m : Int) < k := by
  have := modD_range (n := n) h1 h2
  exact ⟨(modD n k).toNat, by omega, by omega⟩

set_option maxHeartbeats 1000000 in
theorem shifts_con (hA : ∀ lo top, PX.Con Tryz.prog 8 [] [] lo top (.sc (.bool true)) []) (l : List Int) (ahead behind line : Int) : PX.Con Tryz.prog 5 [(.imm 1 (l.map encI)), (.sc (.int .i64 ahead)), (.sc (.int .i64 behind)), (.sc (.int .i64 line))] [] 1 100000 (.sc (.bool true)) [] := by
  refine PX.con_intro [(.imm 1 (l.map encI)), (.sc (.int .i64 ahead)), (.sc (.int .i64 behind)), (.sc (.int .i64 line))] 83 Tryz.func5 rfl rfl (by kernel_rfl) (by kernel_rfl) ?_
  intro E a hE hS
  generalize E.w0 = w at hS ⊢
  have mix := mixed
  refine PX.G [] [] 1 [] [] [.au] [0, 1, 2, 3] [] hS hE trivial fun a w hS => ?_
  refine PX.G [⟨9, [], (.sc (PX.sV (tA l (min l.length 30))))⟩] [] 1 [.q (PX.Con Tryz.prog 9 [(.imm 1 (l.map encI)), (.sc (.slice none 0 0))] [] 1 1 (.tup [(.sc (PX.sV (tA l (min l.length 30)))), (.sc (PX.sV (tB l [] (min l.length 30))))]) [])] [] [.au, .cl [] (.tup [(.sc (PX.sV (tA l (min l.length 30)))), (.sc (PX.sV (tB l [] (min l.length 30))))]) [] 1, .au, .au, .au, .au, .au] [1, 2, 3, 9] [] hS hE ⟨con_nil2 (PX.con_any (con_texts l [])), trivial⟩ fun a w hS => ?_
  have hga := tA_len l (min l.length 30)
  obtain ⟨ls, hls⟩ : ∃ z, l.take (min l.length 30) = z := ⟨_, rfl⟩
  have hgf : tA l (min l.length 30) = ls.flatMap (fun x => [kindA x, 10]) := by unfold tA; rw [hls]
  generalize tA l (min l.length 30) = ga at hS hga hgf; clear hls
  refine PX.G [⟨1, [], (.sc (.int .i64 (modD ahead 9)))⟩, ⟨2, [], (.sc (.int .i64 (modD behind 9)))⟩] [] 1 [.q (PX.Con Tryz.prog 12 [(.sc (.int .i64 ahead)), (.sc (.int .i64 9))] [] 1 1 (.sc (.int .i64 (modD ahead 9))) []), .q (PX.Con Tryz.prog 12 [(.sc (.int .i64 behind)), (.sc (.int .i64 9))] [] 1 1 (.sc (.int .i64 (modD behind 9))) [])] [] [.au, .cl [] (.sc (.int .i64 (modD ahead 9))) [] 1, .au, .cl [] (.sc (.int .i64 (modD behind 9))) [] 1, .au, .au] [1, 2, 3, 9] [] hS hE ⟨PX.con_any (con_mod9 ahead), PX.con_any (con_mod9 behind), trivial⟩ fun a w hS => ?_
  obtain ⟨ah, hah, hah9⟩ := mod_nat (n := ahead) (k := 9) (by omega) (by omega); obtain ⟨be, hbe, hbe9⟩ := mod_nat (n := behind) (k := 9) (by omega) (by omega)
  rw [hah, hbe] at hS
  refine PX.G [⟨11, [], (.sc (PX.sV []))⟩] [] 1 [] [] [.au] [1, 2, 3, 9, 11] [] hS hE trivial fun a w hS => ?_
  refine wp_seq_k fun K1 hK1 => ?_
  refine PX.G [⟨12, [], (.sc (.int .i64 0))⟩] [] 1 [] [] [.au] [1, 2, 3, 9, 11, 12] [] hS hE trivial fun a w hS => ?_
  refine wp_block ?_
  refine wp_loop_ghost (fun m2 a' w' => ∃ k : Nat, m2 = ah - k ∧ k ≤ ah ∧ True ∧ PX.Sat E 83 [⟨1, [], (.sc (.int .i64 ((ah : Nat) : Int)))⟩, ⟨2, [], (.sc (.int .i64 ((be : Nat) : Int)))⟩, ⟨3, [], (.sc (.int .i64 line))⟩, ⟨9, [], (.sc (PX.sV ga))⟩, ⟨11, [], (.sc (PX.sV (news (k))))⟩, ⟨12, [], (.sc (.int .i64 ((k : Nat) : Int)))⟩] [] 1 a' w') (ah - 0) ⟨0, rfl, Nat.zero_le _, trivial, (PX.canon [] _ _ 1 hS hE (by kernel_rfl) (by kernel_rfl) (by kernel_rfl))⟩ ?_
  clear hS; rintro m2 a w ⟨k, hm2, hlek, hIk, hS⟩
  refine wp_seq_k fun K3 hK3 => ?_
  refine PX.G [⟨28, [], (.sc (.bool (decide (((k : Nat) : Int) < ((ah : Nat) : Int)))))⟩] [] 1 [] [] [.au, .au, .au] [1, 2, 3, 9, 11, 12, 28] [] hS hE trivial fun a w hS => ?_
  refine PX.cond_s (decide (((k : Nat) : Int) < ((ah : Nat) : Int))) hS (by kernel_rfl) (fun h4 => ?_) (fun h4 => ?_)
  · skip
    refine wp_skip ?_
    refine hK3 _ _ ?_
    refine wp_seq_k fun K5 hK5 => ?_
    refine wp_block ?_
    have hka : k < ah := by have := of_decide_eq_true h4; omega
    refine PX.G0 [⟨11, [], (.sc (PX.sV (news (k + 1))))⟩] [] 1 [.q (PX.BinIs Tryz.prog .add 9 (.tmp 31) (.const (.string ⟨#[110, 101, 119, 10]⟩)) (PX.sV (news (k))) (PX.sV [110, 101, 119, 10]) (PX.sV (news (k + 1))))] [] [.au, .bs (PX.sV (news (k + 1))), .au] [1, 2, 3, 9, 11, 12] [] hS hE ⟨PX.str_add _ _ _ (by rw [news_succ]; rfl) (by have := news_len k; simp; omega), trivial⟩ fun a w hS => ?_
    refine hK5 _ _ ?_
    refine PX.G0 [⟨12, [], (.sc (.int .i64 ((k + 1 : Nat) : Int)))⟩] [] 1 [.q ((.sc (.int .i64 (IntKind.i64.wrap (((k : Nat) : Int) + 1))) : PX.PV) = (.sc (.int .i64 ((k + 1 : Nat) : Int))))] [] [.au, .nm (.sc (.int .i64 ((k + 1 : Nat) : Int))), .au] [1, 2, 3, 9, 11, 12] [] hS hE ⟨PX.nm_int (by rw [IntWalk.i64_in _ (by omega)]; omega), trivial⟩ fun a w hS => ?_
    exact ⟨ah - (k + 1), by omega, k + 1, rfl, by omega, trivial, (PX.canon [] _ _ 1 hS hE (by kernel_rfl) (by kernel_rfl) (by kernel_rfl))⟩
  · skip
    refine wp_exit ?_
    refine hK1 _ _ ?_
    have hke : k = ah := by have := of_decide_eq_false h4; omega
    rw [hke] at hS
    refine PX.G [⟨11, [], (.sc (PX.sV ((news ah) ++ ga)))⟩] [] 1 [.q (PX.BinIs Tryz.prog .add 9 (.tmp 33) (.tmp 34) (PX.sV (news ah)) (PX.sV ga) (PX.sV ((news ah) ++ ga)))] [] [.au, .au, .bs (PX.sV ((news ah) ++ ga)), .au] [1, 2, 3, 9, 11] [] hS hE ⟨PX.str_add _ _ _ (rfl) (by have := news_len ah; simp; omega), trivial⟩ fun a w hS => ?_
    refine wp_seq_k fun K6 hK6 => ?_
    refine PX.G [⟨13, [], (.sc (.int .i64 0))⟩] [] 1 [] [] [.au] [1, 2, 3, 9, 11, 13] [] hS hE trivial fun a w hS => ?_
    refine wp_block ?_
    replace hS := PX.sl [1, 2, 3, 9, 11, 13] (PX.reslot (t := 11) (.sc (PX.sV (news ah ++ ga ++ lates 0))) hS rfl (fun _ _ _ _ h => (show ((.sc (PX.sV ((news ah) ++ ga))) : PX.PV) = (.sc (PX.sV (news ah ++ ga ++ lates 0))) from by rw [show (news ah ++ ga ++ lates 0) = news ah ++ ga from by simp [lates]]) ▸ h))
    refine wp_loop_ghost (fun m7 a' w' => ∃ q : Nat, m7 = be - q ∧ q ≤ be ∧ True ∧ PX.Sat E 83 [⟨1, [], (.sc (.int .i64 ((ah : Nat) : Int)))⟩, ⟨2, [], (.sc (.int .i64 ((be : Nat) : Int)))⟩, ⟨3, [], (.sc (.int .i64 line))⟩, ⟨9, [], (.sc (PX.sV ga))⟩, ⟨11, [], (.sc (PX.sV (news ah ++ ga ++ lates q)))⟩, ⟨13, [], (.sc (.int .i64 ((q : Nat) : Int)))⟩] [] 1 a' w') (be - 0) ⟨0, rfl, Nat.zero_le _, trivial, (PX.canon [] _ _ 1 hS hE (by kernel_rfl) (by kernel_rfl) (by kernel_rfl))⟩ ?_
    clear hS; rintro m7 a w ⟨q, hm7, hleq, hIq, hS⟩
    refine wp_seq_k fun K8 hK8 => ?_
    refine PX.G [⟨38, [], (.sc (.bool (decide (((q : Nat) : Int) < ((be : Nat) : Int)))))⟩] [] 1 [] [] [.au, .au, .au] [1, 2, 3, 9, 11, 13, 38] [] hS hE trivial fun a w hS => ?_
    refine PX.cond_s (decide (((q : Nat) : Int) < ((be : Nat) : Int))) hS (by kernel_rfl) (fun h9 => ?_) (fun h9 => ?_)
    · skip
      refine wp_skip ?_
      refine hK8 _ _ ?_
      refine wp_seq_k fun K10 hK10 => ?_
      refine wp_block ?_
      have hqb : q < be := by have := of_decide_eq_true h9; omega
      refine PX.G0 [⟨11, [], (.sc (PX.sV (news ah ++ ga ++ lates (q + 1))))⟩] [] 1 [.q (PX.BinIs Tryz.prog .add 9 (.tmp 41) (.const (.string ⟨#[10, 108, 97, 116, 101]⟩)) (PX.sV (news ah ++ ga ++ lates q)) (PX.sV [10, 108, 97, 116, 101]) (PX.sV (news ah ++ ga ++ lates (q + 1))))] [] [.au, .bs (PX.sV (news ah ++ ga ++ lates (q + 1))), .au] [1, 2, 3, 9, 11, 13] [] hS hE ⟨PX.str_add _ _ _ (by rw [lates_succ, ← List.append_assoc]; rfl) (by have := news_len ah; have := lates_len q; simp; omega), trivial⟩ fun a w hS => ?_
      refine hK10 _ _ ?_
      refine PX.G0 [⟨13, [], (.sc (.int .i64 ((q + 1 : Nat) : Int)))⟩] [] 1 [.q ((.sc (.int .i64 (IntKind.i64.wrap (((q : Nat) : Int) + 1))) : PX.PV) = (.sc (.int .i64 ((q + 1 : Nat) : Int))))] [] [.au, .nm (.sc (.int .i64 ((q + 1 : Nat) : Int))), .au] [1, 2, 3, 9, 11, 13] [] hS hE ⟨PX.nm_int (by rw [IntWalk.i64_in _ (by omega)]; omega), trivial⟩ fun a w hS => ?_
      exact ⟨be - (q + 1), by omega, q + 1, rfl, by omega, trivial, (PX.canon [] _ _ 1 hS hE (by kernel_rfl) (by kernel_rfl) (by kernel_rfl))⟩
    · skip
      refine wp_exit ?_
      refine hK6 _ _ ?_
      have hqe : q = be := by have := of_decide_eq_false h9; omega
      rw [hqe] at hS
      have hnl := news_len ah; have hll := lates_len be
      have hsh := shift_move kindA ls (fun x _ => kind_ne x) ah be; rw [← hgf] at hsh
      have hfl := flat_lines kindA ls (fun x _ => kind_ne x); rw [← hgf] at hfl
      have hlen : ls.length + 1 = (linesL ga).length := by rw [hfl]; simp
      rw [hlen] at hsh
      have hl1 := linesL_len ga; have hl2 := linesL_len (news ah ++ ga ++ lates be); have hc1 := count_le_len ga 10; have hc2 := count_le_len (news ah ++ ga ++ lates be) 10
      have hgl : (news ah ++ ga ++ lates be).length ≤ 200 := by simp only [List.length_append]; omega
      clear hfl
      obtain ⟨lx, hlx⟩ : ∃ z, linesL ga = z := ⟨_, rfl⟩
      rw [hlx] at hsh hlen hl1
      refine PX.G [⟨14, [], (.imm 1 ((List.range' (ah + 1) lx.length).map encN))⟩] [] 1 [.q (PX.Con Tryz.prog 10 [(.sc (PX.sV ga)), (.sc (PX.sV (news ah ++ ga ++ lates be)))] [] 1 1 (.imm 1 ((List.range' (ah + 1) lx.length).map encN)) [])] [] [.au, .au, .cl [] (.imm 1 ((List.range' (ah + 1) lx.length).map encN)) [] 1, .au] [1, 3, 9, 14] [] hS hE ⟨hsh ▸ PX.con_any (con_move ga (news ah ++ ga ++ lates be) lx _ hlx rfl (by omega) (by omega) (by omega) (by omega) (by omega) (by omega)), trivial⟩ fun a w hS => ?_
      refine PX.G [⟨15, [], (.imm 1 (lx.map encS))⟩] [] 1 [.q (PX.Con Tryz.prog 16 [(.sc (PX.sV ga))] [] 1 1 (.imm 1 (lx.map encS)) [])] [] [.au, .cl [] (.imm 1 (lx.map encS)) [] 1, .au] [1, 3, 14, 15] [] hS hE ⟨hlx ▸ PX.con_any (con_lines ga (by omega)), trivial⟩ fun a w hS => ?_
      refine wp_seq_k fun K11 hK11 => ?_
      refine PX.G [⟨52, [], (.sc (.bool ((((List.range' (ah + 1) lx.length).length : Nat) : Int) != ((lx.length : Nat) : Int))))⟩] [] 1 [.q ((.sc (.int .i64 ((((List.range' (ah + 1) lx.length).map encN).length : Nat) : Int)) : PX.PV) = (.sc (.int .i64 (((List.range' (ah + 1) lx.length).length : Nat) : Int)))), .q ((.sc (.int .i64 (((lx.map encS).length : Nat) : Int)) : PX.PV) = (.sc (.int .i64 ((lx.length : Nat) : Int))))] [] [.au, .nm (.sc (.int .i64 (((List.range' (ah + 1) lx.length).length : Nat) : Int))), .au, .nm (.sc (.int .i64 ((lx.length : Nat) : Int))), .au] [1, 3, 14, 15, 52] [] hS hE ⟨PX.nm_len (by simp), PX.nm_len (by simp), trivial⟩ fun a w hS => ?_
      refine PX.cond_s ((((List.range' (ah + 1) lx.length).length : Nat) : Int) != ((lx.length : Nat) : Int)) hS (by kernel_rfl) (fun h12 => ?_) (fun h12 => ?_)
      · skip
        simp at h12
      · skip
        refine wp_skip ?_
        refine hK11 _ _ ?_
        refine wp_seq_k fun K13 hK13 => ?_
        refine PX.G [⟨16, [], (.sc (.int .i64 0))⟩] [] 1 [] [] [.au] [1, 3, 14, 15, 16] [] hS hE trivial fun a w hS => ?_
        refine wp_block ?_
        refine wp_loop_ghost (fun m14 a' w' => ∃ r : Nat, m14 = lx.length - r ∧ r ≤ lx.length ∧ True ∧ PX.Sat E 83 [⟨1, [], (.sc (.int .i64 ((ah : Nat) : Int)))⟩, ⟨3, [], (.sc (.int .i64 line))⟩, ⟨14, [], (.imm 1 ((List.range' (ah + 1) lx.length).map encN))⟩, ⟨15, [], (.imm 1 (lx.map encS))⟩, ⟨16, [], (.sc (.int .i64 ((r : Nat) : Int)))⟩] [] 1 a' w') (lx.length - 0) ⟨0, rfl, Nat.zero_le _, trivial, (PX.canon [] _ _ 1 hS hE (by kernel_rfl) (by kernel_rfl) (by kernel_rfl))⟩ ?_
        clear hS; rintro m14 a w ⟨r, hm14, hler, hIr, hS⟩
        refine wp_seq_k fun K15 hK15 => ?_
        refine PX.G [⟨56, [], (.sc (.bool (decide (((r : Nat) : Int) < ((lx.length : Nat) : Int)))))⟩] [] 1 [.q ((.sc (.int .i64 (((lx.map encS).length : Nat) : Int)) : PX.PV) = (.sc (.int .i64 ((lx.length : Nat) : Int))))] [] [.au, .au, .nm (.sc (.int .i64 ((lx.length : Nat) : Int))), .au] [1, 3, 14, 15, 16, 56] [] hS hE ⟨PX.nm_len (by simp), trivial⟩ fun a w hS => ?_
        refine PX.cond_s (decide (((r : Nat) : Int) < ((lx.length : Nat) : Int))) hS (by kernel_rfl) (fun h16 => ?_) (fun h16 => ?_)
        · skip
          refine wp_skip ?_
          refine hK15 _ _ ?_
          refine wp_seq_k fun K17 hK17 => ?_
          refine wp_block ?_
          have hrl : r < lx.length := by simpa using h16
          refine PX.G [⟨67, [], (.sc (.bool ((((ah + 1 + r) : Nat) : Int) != (((r + 1 + ah) : Nat) : Int))))⟩] [] 1 [.q (((r : Nat) : Int) = ((r : Nat) : Int)), .q (((List.range' (ah + 1) lx.length).map encN)[r]? = some (encN (ah + 1 + r))), .q ((.sc (.int .i64 (IntKind.i64.wrap (((r : Nat) : Int) + 1))) : PX.PV) = (.sc (.int .i64 ((r + 1 : Nat) : Int)))), .q ((.sc (.int .i64 (IntKind.i64.wrap (((r + 1 : Nat) : Int) + ((ah : Nat) : Int)))) : PX.PV) = (.sc (.int .i64 (((r + 1 + ah) : Nat) : Int))))] [] [.au, .au, .ix r (encN (ah + 1 + r)), .au, .au, .nm (.sc (.int .i64 ((r + 1 : Nat) : Int))), .au, .nm (.sc (.int .i64 (((r + 1 + ah) : Nat) : Int))), .au] [1, 3, 14, 15, 16, 67] [] hS hE ⟨rfl, rg_at hrl, PX.nm_int (by rw [IntWalk.i64_in _ (by omega)]; omega), PX.nm_int (by rw [IntWalk.i64_in _ (by omega)]; omega), trivial⟩ fun a w hS => ?_
          refine PX.cond_s ((((ah + 1 + r) : Nat) : Int) != (((r + 1 + ah) : Nat) : Int)) hS (by kernel_rfl) (fun h18 => ?_) (fun h18 => ?_)
          · skip
            simp at h18; omega
          · skip
            refine wp_skip ?_
            refine hK17 _ _ ?_
            refine PX.G0 [⟨16, [], (.sc (.int .i64 ((r + 1 : Nat) : Int)))⟩] [] 1 [.q ((.sc (.int .i64 (IntKind.i64.wrap (((r : Nat) : Int) + 1))) : PX.PV) = (.sc (.int .i64 ((r + 1 : Nat) : Int))))] [] [.au, .nm (.sc (.int .i64 ((r + 1 : Nat) : Int))), .au] [1, 3, 14, 15, 16] [] hS hE ⟨PX.nm_int (by rw [IntWalk.i64_in _ (by omega)]; omega), trivial⟩ fun a w hS => ?_
            exact ⟨lx.length - (r + 1), by omega, r + 1, rfl, by omega, trivial, (PX.canon [] _ _ 1 hS hE (by kernel_rfl) (by kernel_rfl) (by kernel_rfl))⟩
        · skip
          refine wp_exit ?_
          refine hK13 _ _ ?_
          obtain ⟨jn, hjn, hjl⟩ := mod_nat (n := line) (k := ((lx.length : Nat) : Int)) (by omega) (by omega)
          refine PX.G [⟨3, [], (.sc (.int .i64 (((1 + jn) : Nat) : Int)))⟩] [] 1 [.q ((.sc (.int .i64 (((lx.map encS).length : Nat) : Int)) : PX.PV) = (.sc (.int .i64 ((lx.length : Nat) : Int)))), .q (PX.Con Tryz.prog 12 [(.sc (.int .i64 line)), (.sc (.int .i64 ((lx.length : Nat) : Int)))] [] 1 1 (.sc (.int .i64 ((jn : Nat) : Int))) []), .q ((.sc (.int .i64 (IntKind.i64.wrap (1 + ((jn : Nat) : Int)))) : PX.PV) = (.sc (.int .i64 (((1 + jn) : Nat) : Int))))] [] [.au, .au, .nm (.sc (.int .i64 ((lx.length : Nat) : Int))), .cl [] (.sc (.int .i64 ((jn : Nat) : Int))) [] 1, .nm (.sc (.int .i64 (((1 + jn) : Nat) : Int))), .au] [1, 3, 14] [] hS hE ⟨PX.nm_len (by simp), hjn ▸ PX.con_any (con_modk line _ (by omega)), PX.nm_int (by rw [IntWalk.i64_in _ (by omega)]; omega), trivial⟩ fun a w hS => ?_
          refine PX.G [⟨8, [], (.sc (.bool (((((ah + 1 + jn) : Nat) : Int) == (((1 + jn + ah) : Nat) : Int)) && true)))⟩] [] 1 [.q (PX.Con Tryz.prog 14 [(.imm 1 ((List.range' (ah + 1) lx.length).map encN)), (.sc (.int .i64 (((1 + jn) : Nat) : Int)))] [] 1 1 (.sc (.int .i64 (((ah + 1 + jn) : Nat) : Int))) []), .q ((.sc (.int .i64 (IntKind.i64.wrap ((((1 + jn) : Nat) : Int) + ((ah : Nat) : Int)))) : PX.PV) = (.sc (.int .i64 (((1 + jn + ah) : Nat) : Int)))), .q (SX.pv [(7, ((((ah + 1 + jn) : Nat) : Int) == (((1 + jn + ah) : Nat) : Int)))] [(7, true)] = true → PX.AllOb [.q (PX.Con Tryz.prog 8 [] [] 1 1 (.sc (.bool true)) [])])] [(7, ((((ah + 1 + jn) : Nat) : Int) == (((1 + jn + ah) : Nat) : Int)))] [.au, .au, .cl [] (.sc (.int .i64 (((ah + 1 + jn) : Nat) : Int))) [] 1, .au, .au, .nm (.sc (.int .i64 (((1 + jn + ah) : Nat) : Int))), .au, .au, .cl [] (.sc (.bool true)) [] 1, .pk, .au] [8] [] hS hE ⟨fol_at (a := ah) (n := lx.length) (j := jn) (by omega) ▸ PX.con_any (con_follow (List.range' (ah + 1) lx.length) _ (by simp; omega)), PX.nm_int (by rw [IntWalk.i64_in _ (by omega)]; omega), fun hg => ⟨hA _ _, trivial⟩, trivial⟩ fun a w hS => ?_
          refine wp_ret ?_
          try simp only [Exit.then, Exit.inBlock, Nat.reduceEqDiff, ↓reduceIte]
          rw [show (.sc (.bool true)) = ((.sc (.bool (((((ah + 1 + jn) : Nat) : Int) == (((1 + jn + ah) : Nat) : Int)) && true))) : PX.PV) from by rw [show ah + 1 + jn = 1 + jn + ah by omega]; simp]
          exact PX.ret_s hS hE (by kernel_rfl) (by kernel_rfl) (by kernel_rfl) (.inl rfl)
end Go.Proofs.YtlaiafalilcgjaaGreatDoor
