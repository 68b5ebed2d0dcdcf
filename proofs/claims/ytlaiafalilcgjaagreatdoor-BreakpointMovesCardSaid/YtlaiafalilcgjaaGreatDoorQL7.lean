/- Proved: Follow, Lines -/
import Derived.Test.YtlaiafalilcgjaaGreatDoorQK1
import Derived.Test.YtlaiafalilcgjaaGreatDoorQMrk
import Derived.Test.YtlaiafalilcgjaaGreatDoorQMkd
import Derived.Test.YtlaiafalilcgjaaGreatDoorQL4
set_option linter.unusedVariables false
set_option linter.unusedSimpArgs false
namespace Go.Proofs.YtlaiafalilcgjaaGreatDoor
open Go.RowKit Go.PX
set_option maxRecDepth 100000
def encN (x : Nat) : List PV := [.sc (.int .i64 (x : Int))]
def encS (s : List UInt8) : List PV := [.sc (sV s)]
open Go.BK
theorem firstN_at {xs : List Nat} {k y : Nat} (hy : xs[k]? = some y) : firstN (xs.drop k) = if y = 0 then firstN (xs.drop (k + 1)) else y := by
  rw [drop_at hy]; rfl
theorem firstN_end (xs : List Nat) : firstN (xs.drop xs.length) = 0 := by rw [List.drop_length]; rfl
theorem follow_out {l : List Nat} {line : Int} (h : (decide (line < 1) || decide ((l.length : Int) < line)) = true) : followD l line = 0 := by
  unfold followD
  by_cases h1 : line < 1
  · rw [if_pos h1]
  · rw [if_neg h1, List.drop_eq_nil_of_le]; rfl
    simp [h1] at h; omega
theorem follow_in {l : List Nat} {line : Int} (h : ¬ line < 1) : followD l line = firstN (l.drop (line - 1).toNat) := by unfold followD; rw [if_neg h]

set_option maxHeartbeats 400000 in
theorem con_follow (l : List Nat) (line : Int) (hl : l.length ≤ 1000000) : PX.Con Tryz.prog 14 [(.imm 1 (l.map encN)), (.sc (.int .i64 line))] [] 1 100000 (.sc (.int .i64 ((followD l line : Nat) : Int))) [] := by
  refine PX.con_intro [(.imm 1 (l.map encN)), (.sc (.int .i64 line))] 28 Tryz.func14 rfl rfl (by kernel_rfl) (by kernel_rfl) ?_
  intro E a hE hS
  generalize E.w0 = w at hS ⊢
  have mix := mixed
  refine PX.G [] [] 1 [] [] [.au] [0, 1] [] hS hE trivial fun a w hS => ?_
  refine wp_seq_k fun K1 hK1 => ?_
  refine PX.G [⟨14, [], (.sc (.bool (decide (line < 1) || decide (((l.length : Nat) : Int) < line))))⟩] [] 1 [.q (SX.pv [(2, decide (line < 1))] [(2, false)] = true → PX.AllOb [.q ((.sc (.int .i64 (((l.map encN).length : Nat) : Int)) : PX.PV) = (.sc (.int .i64 ((l.length : Nat) : Int))))])] [(2, decide (line < 1))] [.au, .au, .au, .au, .au, .nm (.sc (.int .i64 ((l.length : Nat) : Int))), .au, .pk] [0, 1, 14] [] hS hE ⟨fun hg => ⟨PX.nm_len (by simp), trivial⟩, trivial⟩ fun a w hS => ?_
  refine PX.cond_s (decide (line < 1) || decide (((l.length : Nat) : Int) < line)) hS (by kernel_rfl) (fun h2 => ?_) (fun h2 => ?_)
  · skip
    refine PX.G [⟨4, [], (.sc (.int .i64 0))⟩] [] 1 [] [] [.au] [4] [] hS hE trivial fun a w hS => ?_
    refine wp_ret ?_
    try simp only [Exit.then, Exit.inBlock, Nat.reduceEqDiff, ↓reduceIte]
    rw [show (.sc (.int .i64 ((followD l line : Nat) : Int))) = ((.sc (.int .i64 0)) : PX.PV) from by rw [follow_out h2]; rfl]
    exact PX.ret_s hS hE (by kernel_rfl) (by kernel_rfl) (by kernel_rfl) (.inl rfl)
  · skip
    refine wp_skip ?_
    refine hK1 _ _ ?_
    refine wp_seq_k fun K3 hK3 => ?_
    have hln : ¬ line < 1 ∧ line ≤ (l.length : Int) := by simp at h2; omega
    have hfo := follow_in (l := l) hln.1
    have hxl : (l.drop (line - 1).toNat).length ≤ 1000000 := by rw [List.length_drop]; omega
    refine PX.G [⟨18, [], (.imm 1 ((l.drop (line - 1).toNat).map encN))⟩, ⟨19, [], (.sc (.int .i64 (((l.drop (line - 1).toNat).length : Nat) : Int)))⟩, ⟨20, [], (.sc (.int .i64 0))⟩] [] 1 [.q (((line - 1).toNat : Nat) ≤ l.length), .q (l.length ≤ (l.map encN).length), .q (((l.map encN).take l.length).drop ((line - 1).toNat) = ((l.drop (line - 1).toNat).map encN)), .q ((IntKind.i64.wrap (line - 1)) = (((line - 1).toNat : Nat) : Int)), .q ((l.length : Nat) = (l.map encN).length), .q ((.sc (.int .i64 ((((l.drop (line - 1).toNat).map encN).length : Nat) : Int)) : PX.PV) = (.sc (.int .i64 (((l.drop (line - 1).toNat).length : Nat) : Int))))] [] [.au, .au, .au, .sl ((line - 1).toNat) l.length ((l.drop (line - 1).toNat).map encN), .nm (.sc (.int .i64 (((l.drop (line - 1).toNat).length : Nat) : Int))), .au] [18, 19, 20] [] hS hE ⟨by omega, by simp, by rw [List.take_of_length_le (by simp)]; simp, by rw [IntWalk.i64_in _ (by omega)]; omega, by simp, PX.nm_len (by simp), trivial⟩ fun a w hS => ?_
    generalize l.drop (line - 1).toNat = xs at hS hfo hxl
    refine wp_block ?_
    refine wp_loop_ghost (fun m4 a' w' => ∃ k : Nat, m4 = xs.length - k ∧ k ≤ xs.length ∧ firstN xs = firstN (xs.drop (k)) ∧ PX.Sat E 28 [⟨18, [], (.imm 1 (xs.map encN))⟩, ⟨19, [], (.sc (.int .i64 ((xs.length : Nat) : Int)))⟩, ⟨20, [], (.sc (.int .i64 ((k : Nat) : Int)))⟩] [] 1 a' w') (xs.length - 0) ⟨0, rfl, Nat.zero_le _, rfl, (PX.canon [] _ _ 1 hS hE (by kernel_rfl) (by kernel_rfl) (by kernel_rfl))⟩ ?_
    clear hS; rintro m4 a w ⟨k, hm4, hlek, hIk, hS⟩
    refine PX.G [⟨21, [], (.sc (.bool (decide (((k : Nat) : Int) < ((xs.length : Nat) : Int)))))⟩] [] 1 [] [] [.au] [18, 19, 20, 21] [] hS hE trivial fun a w hS => ?_
    refine wp_seq_k fun K5 hK5 => ?_
    refine PX.cond_s (decide (((k : Nat) : Int) < ((xs.length : Nat) : Int))) hS (by kernel_rfl) (fun h6 => ?_) (fun h6 => ?_)
    · skip
      refine wp_skip ?_
      refine hK5 _ _ ?_
      refine wp_seq_k fun K7 hK7 => ?_
      refine wp_block ?_
      have hlt : k < xs.length := by simpa using h6
      obtain ⟨y, hy⟩ := get_of_lt hlt
      refine PX.G [⟨6, [], (.sc (.int .i64 ((y : Nat) : Int)))⟩] [] 1 [.q (((k : Nat) : Int) = ((k : Nat) : Int)), .q ((xs.map encN)[k]? = some (encN y))] [] [.ix k (encN y), .au, .au] [6, 18, 19, 20] [] hS hE ⟨rfl, PX.map_get hy, trivial⟩ fun a w hS => ?_
      refine PX.G [⟨25, [], (.sc (.bool (((y : Nat) : Int) != 0)))⟩] [] 1 [] [] [.au, .au] [6, 18, 19, 20, 25] [] hS hE trivial fun a w hS => ?_
      refine PX.cond_s (((y : Nat) : Int) != 0) hS (by kernel_rfl) (fun h8 => ?_) (fun h8 => ?_)
      · skip
        refine PX.G [⟨4, [], (.sc (.int .i64 ((y : Nat) : Int)))⟩] [] 1 [] [] [.au, .au] [4, 18, 19, 20] [] hS hE trivial fun a w hS => ?_
        refine wp_ret ?_
        try simp only [Exit.then, Exit.inBlock, Nat.reduceEqDiff, ↓reduceIte]
        rw [show (.sc (.int .i64 ((followD l line : Nat) : Int))) = ((.sc (.int .i64 ((y : Nat) : Int))) : PX.PV) from by rw [hfo, hIk, firstN_at hy, if_neg (by simpa using h8)]]
        exact PX.ret_s hS hE (by kernel_rfl) (by kernel_rfl) (by kernel_rfl) (.inl rfl)
      · skip
        refine wp_skip ?_
        refine hK7 _ _ ?_
        refine PX.G0 [⟨20, [], (.sc (.int .i64 ((k + 1 : Nat) : Int)))⟩] [] 1 [.q ((.sc (.int .i64 (IntKind.i64.wrap (((k : Nat) : Int) + 1))) : PX.PV) = (.sc (.int .i64 ((k + 1 : Nat) : Int))))] [] [.nm (.sc (.int .i64 ((k + 1 : Nat) : Int))), .au] [18, 19, 20] [] hS hE ⟨PX.nm_int (by rw [IntWalk.i64_in _ (by omega)]; omega), trivial⟩ fun a w hS => ?_
        exact ⟨xs.length - (k + 1), by omega, k + 1, rfl, by omega, by rw [hIk, firstN_at hy, if_pos (by simpa using h8)], (PX.canon [] _ _ 1 hS hE (by kernel_rfl) (by kernel_rfl) (by kernel_rfl))⟩
    · skip
      refine wp_exit ?_
      refine hK3 _ _ ?_
      refine PX.G [⟨4, [], (.sc (.int .i64 0))⟩] [] 1 [] [] [.au] [4] [] hS hE trivial fun a w hS => ?_
      refine wp_ret ?_
      try simp only [Exit.then, Exit.inBlock, Nat.reduceEqDiff, ↓reduceIte]
      rw [show (.sc (.int .i64 ((followD l line : Nat) : Int))) = ((.sc (.int .i64 0)) : PX.PV) from by rw [hfo, hIk, show k = xs.length from by have := h6; simp at this; omega, firstN_end]; rfl]
      exact PX.ret_s hS hE (by kernel_rfl) (by kernel_rfl) (by kernel_rfl) (.inl rfl)

set_option maxHeartbeats 400000 in
theorem con_followR (l : List Nat) (line : Int) (hl : l.length ≤ 1000000) (hw : line ≤ 9223372036854775807) : PX.Con Tryz.prog 15 [(.imm 1 (l.map encN)), (.sc (.int .i64 line))] [] 1 100000 (.sc (.int .i64 ((followD l line : Nat) : Int))) [] := by
  refine PX.con_intro [(.imm 1 (l.map encN)), (.sc (.int .i64 line))] 25 Tryz.func15 rfl rfl (by kernel_rfl) (by kernel_rfl) ?_
  intro E a hE hS
  generalize E.w0 = w at hS ⊢
  have mix := mixed
  refine PX.G [] [] 1 [] [] [.au] [0, 1] [] hS hE trivial fun a w hS => ?_
  refine wp_seq_k fun K1 hK1 => ?_
  refine PX.G [⟨7, [], (.sc (.bool (decide (line < 1))))⟩] [] 1 [] [] [.au, .au] [0, 1, 7] [] hS hE trivial fun a w hS => ?_
  refine PX.cond_s (decide (line < 1)) hS (by kernel_rfl) (fun h2 => ?_) (fun h2 => ?_)
  · skip
    refine PX.G [⟨4, [], (.sc (.int .i64 0))⟩] [] 1 [] [] [.au] [4] [] hS hE trivial fun a w hS => ?_
    refine wp_ret ?_
    try simp only [Exit.then, Exit.inBlock, Nat.reduceEqDiff, ↓reduceIte]
    rw [show (.sc (.int .i64 ((followD l line : Nat) : Int))) = ((.sc (.int .i64 0)) : PX.PV) from by rw [show followD l line = 0 from by unfold followD; rw [if_pos (by simpa using h2)]]; rfl]
    exact PX.ret_s hS hE (by kernel_rfl) (by kernel_rfl) (by kernel_rfl) (.inl rfl)
  · skip
    refine wp_skip ?_
    refine hK1 _ _ ?_
    refine wp_seq_k fun K3 hK3 => ?_
    have hln : ¬ line < 1 := by simpa using h2
    have hfo := follow_in (l := l) hln
    refine PX.G [⟨5, [], (.sc (.int .i64 (((line - 1).toNat : Nat) : Int)))⟩] [] 1 [.q ((.sc (.int .i64 (IntKind.i64.wrap (line - 1))) : PX.PV) = (.sc (.int .i64 (((line - 1).toNat : Nat) : Int))))] [] [.au, .nm (.sc (.int .i64 (((line - 1).toNat : Nat) : Int))), .au] [0, 5] [] hS hE ⟨PX.nm_int (by rw [IntWalk.i64_in _ (by omega)]; omega), trivial⟩ fun a w hS => ?_
    generalize hj : (line - 1).toNat = j at hS hfo
    refine wp_block ?_
    refine wp_loop_ghost (fun m4 a' w' => ∃ k : Nat, m4 = l.length - k ∧ k ≤ l.length ∧ firstN (l.drop j) = firstN (l.drop (j + k)) ∧ PX.Sat E 25 [⟨0, [], (.imm 1 (l.map encN))⟩, ⟨5, [], (.sc (.int .i64 ((j + k : Nat) : Int)))⟩] [] 1 a' w') (l.length - 0) ⟨0, rfl, Nat.zero_le _, rfl, (PX.canon [] _ _ 1 hS hE (by kernel_rfl) (by kernel_rfl) (by kernel_rfl))⟩ ?_
    clear hS; rintro m4 a w ⟨k, hm4, hlek, hIk, hS⟩
    refine wp_seq_k fun K5 hK5 => ?_
    refine PX.G [⟨13, [], (.sc (.bool (decide (((j + k : Nat) : Int) < ((l.length : Nat) : Int)))))⟩] [] 1 [.q ((.sc (.int .i64 (((l.map encN).length : Nat) : Int)) : PX.PV) = (.sc (.int .i64 ((l.length : Nat) : Int))))] [] [.au, .au, .nm (.sc (.int .i64 ((l.length : Nat) : Int))), .au] [0, 5, 13] [] hS hE ⟨PX.nm_len (by simp), trivial⟩ fun a w hS => ?_
    refine PX.cond_s (decide (((j + k : Nat) : Int) < ((l.length : Nat) : Int))) hS (by kernel_rfl) (fun h6 => ?_) (fun h6 => ?_)
    · skip
      refine wp_skip ?_
      refine hK5 _ _ ?_
      refine wp_seq_k fun K7 hK7 => ?_
      refine wp_block ?_
      have hlt : j + k < l.length := by have := h6; simp at this; omega
      obtain ⟨y, hy⟩ := get_of_lt hlt
      refine PX.G [⟨20, [], (.sc (.bool (((y : Nat) : Int) != 0)))⟩] [] 1 [.q (((j + k : Nat) : Int) = ((j + k : Nat) : Int)), .q ((l.map encN)[j + k]? = some (encN y))] [] [.au, .au, .ix (j + k) (encN y), .au, .au] [0, 5, 20] [] hS hE ⟨rfl, PX.map_get hy, trivial⟩ fun a w hS => ?_
      refine PX.cond_s (((y : Nat) : Int) != 0) hS (by kernel_rfl) (fun h8 => ?_) (fun h8 => ?_)
      · skip
        refine PX.G [⟨4, [], (.sc (.int .i64 ((y : Nat) : Int)))⟩] [] 1 [.q (((j + k : Nat) : Int) = ((j + k : Nat) : Int)), .q ((l.map encN)[j + k]? = some (encN y))] [] [.au, .au, .ix (j + k) (encN y), .au, .au] [0, 4, 5] [] hS hE ⟨rfl, PX.map_get hy, trivial⟩ fun a w hS => ?_
        refine wp_ret ?_
        try simp only [Exit.then, Exit.inBlock, Nat.reduceEqDiff, ↓reduceIte]
        rw [show (.sc (.int .i64 ((followD l line : Nat) : Int))) = ((.sc (.int .i64 ((y : Nat) : Int))) : PX.PV) from by rw [hfo, hIk, firstN_at hy, if_neg (by simpa using h8)]]
        exact PX.ret_s hS hE (by kernel_rfl) (by kernel_rfl) (by kernel_rfl) (.inl rfl)
      · skip
        refine wp_skip ?_
        refine hK7 _ _ ?_
        refine PX.G0 [⟨5, [], (.sc (.int .i64 ((j + (k + 1) : Nat) : Int)))⟩] [] 1 [.q ((.sc (.int .i64 (IntKind.i64.wrap (((j + k : Nat) : Int) + 1))) : PX.PV) = (.sc (.int .i64 ((j + (k + 1) : Nat) : Int))))] [] [.au, .nm (.sc (.int .i64 ((j + (k + 1) : Nat) : Int))), .au] [0, 5] [] hS hE ⟨PX.nm_int (by rw [IntWalk.i64_in _ (by omega)]; omega), trivial⟩ fun a w hS => ?_
        exact ⟨l.length - (k + 1), by omega, k + 1, rfl, by omega, by rw [hIk, firstN_at hy, if_pos (by simpa using h8)]; rfl, (PX.canon [] _ _ 1 hS hE (by kernel_rfl) (by kernel_rfl) (by kernel_rfl))⟩
    · skip
      refine wp_exit ?_
      refine hK3 _ _ ?_
      refine PX.G [⟨4, [], (.sc (.int .i64 0))⟩] [] 1 [] [] [.au] [4] [] hS hE trivial fun a w hS => ?_
      refine wp_ret ?_
      try simp only [Exit.then, Exit.inBlock, Nat.reduceEqDiff, ↓reduceIte]
      rw [show (.sc (.int .i64 ((followD l line : Nat) : Int))) = ((.sc (.int .i64 0)) : PX.PV) from by rw [hfo, hIk, List.drop_eq_nil_of_le (by have := h6; simp at this; omega)]; rfl]
      exact PX.ret_s hS hE (by kernel_rfl) (by kernel_rfl) (by kernel_rfl) (.inl rfl)

def cndL (l : List UInt8) (k : Nat) : Bool := ((k : Int) == (l.length : Int)) || (((l.getD k 0).toNat : Int) == 10)
/-- what the document's Lines has behind k signs: the lines, and where the next one begins -/
def stL (l : List UInt8) : Nat → List (List UInt8) × Nat
  | 0 => ([], 0)
  | k + 1 => if cndL l k = true then ((stL l k).1 ++ [(l.take k).drop (stL l k).2], k + 1) else stL l k
theorem stL_yes {l : List UInt8} {k : Nat} (h : cndL l k = true) : stL l (k + 1) = ((stL l k).1 ++ [(l.take k).drop (stL l k).2], k + 1) := by rw [stL, if_pos h]
theorem stL_no {l : List UInt8} {k : Nat} (h : cndL l k = false) : stL l (k + 1) = stL l k := by rw [stL, if_neg (by rw [h]; simp)]
theorem stL_le (l : List UInt8) : ∀ k, (stL l k).2 ≤ k ∧ (stL l k).1.length ≤ k
  | 0 => ⟨Nat.le_refl _, Nat.le_refl _⟩
  | k + 1 => by
    have := stL_le l k
    cases h : cndL l k with
    | true => rw [stL_yes h]; simp; omega
    | false => rw [stL_no h]; omega
theorem getD_at {l : List UInt8} {k : Nat} (h : k < l.length) : l[k]? = some (l.getD k 0) := by rw [List.getD_eq_getElem?_getD, List.getElem?_eq_getElem h]; rfl
theorem stL_inv (l : List UInt8) : ∀ k, k ≤ l.length → linesL l = (stL l k).1 ++ cutL ((l.take k).drop (stL l k).2) (l.drop k)
  | 0, _ => by simp [stL, linesL]
  | k + 1, hk => by
    have ih := stL_inv l k (by omega)
    have hg := getD_at (l := l) (k := k) (by omega)
    have hd := drop_at hg
    have hle := (stL_le l k).1
    have hn : ((k : Int) == (l.length : Int)) = false := by simp; omega
    rw [hd, cutL] at ih
    cases h : cndL l k with
    | true =>
      have h10 : l.getD k 0 = 10 := by
        unfold cndL at h; rw [hn, Bool.false_or] at h
        have := eq_of_beq h
        apply UInt8.toNat_inj.1
        have e : (10 : UInt8).toNat = 10 := rfl
        rw [e]; omega
      rw [if_pos h10] at ih
      have e : (l.take (k + 1)).drop (k + 1) = [] := List.drop_eq_nil_of_le (by simp; omega)
      rw [stL_yes h, ih]
      show _ = ((stL l k).1 ++ [(l.take k).drop (stL l k).2]) ++ cutL ((l.take (k + 1)).drop (k + 1)) _
      rw [e]
      simp
    | false =>
      have h10 : l.getD k 0 ≠ 10 := by
        intro q
        unfold cndL at h; rw [hn, Bool.false_or, q] at h
        cases h
      rw [if_neg h10] at ih
      rw [stL_no h, ih]
      congr 2
      rw [List.take_add_one, hg, Option.toList_some, List.drop_append_of_le_length (by simp; omega)]
theorem stL_end (l : List UInt8) : (stL l (l.length + 1)).1 = linesL l := by
  have h : cndL l l.length = true := by unfold cndL; simp
  have := stL_inv l l.length (Nat.le_refl _)
  rw [List.drop_length, cutL] at this
  rw [stL_yes h, this]

set_option maxHeartbeats 400000 in
theorem con_lines (l : List UInt8) (hl : l.length ≤ 1000000) : PX.Con Tryz.prog 16 [(.sc (PX.sV l))] [] 1 100000 (.imm 1 ((linesL l).map encS)) [] := by
  refine PX.con_intro [(.sc (PX.sV l))] 33 Tryz.func16 rfl rfl (by kernel_rfl) (by kernel_rfl) ?_
  intro E a hE hS
  generalize E.w0 = w at hS ⊢
  have mix := mixed
  refine PX.G [] [] 1 [] [] [.au] [0] [] hS hE trivial fun a w hS => ?_
  refine PX.G [⟨3, [], (.own 1 1 0)⟩] [(1, .row 9 1 true ([]))] 2 [] [] [.au, .au] [0, 3] [1] hS hE trivial fun a w hS => ?_
  refine PX.G [⟨4, [], (.sc (.int .i64 0))⟩] [] 2 [] [] [.au] [0, 3, 4] [1] hS hE trivial fun a w hS => ?_
  refine wp_seq_k fun K1 hK1 => ?_
  refine PX.G [⟨5, [], (.sc (.int .i64 0))⟩] [] 2 [] [] [.au] [0, 3, 4, 5] [1] hS hE trivial fun a w hS => ?_
  refine wp_block ?_
  refine wp_loop_ghost (fun m2 a' w' => ∃ k : Nat, m2 = (l.length + 1) - k ∧ k ≤ (l.length + 1) ∧ True ∧ PX.Sat E 33 [⟨0, [], (.sc (PX.sV l))⟩, ⟨3, [], (.own 1 1 ((stL l (k)).1.length))⟩, ⟨4, [], (.sc (.int .i64 (((stL l (k)).2 : Nat) : Int)))⟩, ⟨5, [], (.sc (.int .i64 ((k : Nat) : Int)))⟩] [(1, .row 9 1 true ((stL l (k)).1.map encS))] 2 a' w') ((l.length + 1) - 0) ⟨0, rfl, Nat.zero_le _, trivial, (PX.canon [] _ _ 2 hS hE (by kernel_rfl) (by kernel_rfl) (by kernel_rfl))⟩ ?_
  clear hS; rintro m2 a w ⟨k, hm2, hlek, hIk, hS⟩
  refine wp_seq_k fun K3 hK3 => ?_
  refine PX.G [⟨10, [], (.sc (.bool (decide (((k : Nat) : Int) ≤ ((l.length : Nat) : Int)))))⟩] [] 2 [.q ((.sc (.int .i64 (((PX.sB l).size : Nat) : Int)) : PX.PV) = (.sc (.int .i64 ((l.length : Nat) : Int))))] [] [.au, .au, .nm (.sc (.int .i64 ((l.length : Nat) : Int))), .au] [0, 3, 4, 5, 10] [1] hS hE ⟨PX.nm_len (PX.sB_size _), trivial⟩ fun a w hS => ?_
  refine PX.cond_s (decide (((k : Nat) : Int) ≤ ((l.length : Nat) : Int))) hS (by kernel_rfl) (fun h4 => ?_) (fun h4 => ?_)
  · skip
    refine wp_skip ?_
    refine hK3 _ _ ?_
    refine wp_seq_k fun K5 hK5 => ?_
    refine wp_block ?_
    have hkl : k ≤ l.length := by have := h4; simp at this; omega
    have hsl := stL_le l k
    refine PX.G [⟨22, [], (.sc (.bool ((((k : Nat) : Int) == ((l.length : Nat) : Int)) || ((((l.getD k 0)).toNat : Int) == 10))))⟩] [] 2 [.q ((.sc (.int .i64 (((PX.sB l).size : Nat) : Int)) : PX.PV) = (.sc (.int .i64 ((l.length : Nat) : Int)))), .q (SX.pv [(4, (((k : Nat) : Int) == ((l.length : Nat) : Int)))] [(4, false)] = true → PX.AllOb [.q (PX.StrAt (PX.sB l) ((k : Nat) : Int) (l.getD k 0))])] [(4, (((k : Nat) : Int) == ((l.length : Nat) : Int)))] [.au, .au, .nm (.sc (.int .i64 ((l.length : Nat) : Int))), .au, .au, .au, .au, .sx (l.getD k 0), .au, .pk] [0, 3, 4, 5, 22] [1] hS hE ⟨PX.nm_len (PX.sB_size _), fun hg => ⟨PX.str_at (getD_at (by simp [SX.pv, SX.kv] at hg; omega)), trivial⟩, trivial⟩ fun a w hS => ?_
    refine PX.cond_s ((((k : Nat) : Int) == ((l.length : Nat) : Int)) || ((((l.getD k 0)).toNat : Int) == 10)) hS (by kernel_rfl) (fun h6 => ?_) (fun h6 => ?_)
    · skip
      refine PX.G [⟨3, [], (.own 3 1 ((((stL l (k)).1.map encS) : List (List PX.PV)).length + 1))⟩] [(3, .row 9 1 true (((stL l (k)).1.map encS) ++ [[(.sc (PX.sV ((l.take k).drop (stL l (k)).2)))]]))] 4 [.q (((stL l (k)).2 : Nat) ≤ k), .q (k ≤ (PX.sB l).size), .q ((PX.sB l).extract ((stL l (k)).2) k = PX.sB ((l.take k).drop (stL l (k)).2)), .q ((((stL l (k)).2 : Nat) : Int) = (((stL l (k)).2 : Nat) : Int)), .q (((k : Nat) : Int) = ((k : Nat) : Int)), .b (lenIs ((stL l (k)).1.length) ((stL l (k)).1.map encS)), .b (lenIs 1 ([[(.sc (PX.sV ((l.take k).drop (stL l (k)).2)))]])), .b (Nat.ble ((((stL l (k)).1.map encS) : List (List PX.PV)).length + 1) 1000000000)] [] [.au, .au, .au, .au, .ss ((stL l (k)).2) k (PX.sB ((l.take k).drop (stL l (k)).2)), .au, .au, .au] [0, 3, 4, 5] [3] hS hE ⟨hsl.1, by rw [PX.sB_size]; exact (hkl), PX.str_sub (rfl), rfl, rfl, by simp [PX.lenIs], rfl, by simp; omega, trivial⟩ fun a w hS => ?_
      refine PX.G0 [⟨4, [], (.sc (.int .i64 ((k + 1 : Nat) : Int)))⟩] [] 4 [.q ((.sc (.int .i64 (IntKind.i64.wrap (((k : Nat) : Int) + 1))) : PX.PV) = (.sc (.int .i64 ((k + 1 : Nat) : Int))))] [] [.au, .nm (.sc (.int .i64 ((k + 1 : Nat) : Int))), .au] [0, 3, 4, 5] [3] hS hE ⟨PX.nm_int (by rw [IntWalk.i64_in _ (by omega)]; omega), trivial⟩ fun a w hS => ?_
      refine hK5 _ _ ?_
      refine PX.G0 [⟨5, [], (.sc (.int .i64 ((k + 1 : Nat) : Int)))⟩] [] 4 [.q ((.sc (.int .i64 (IntKind.i64.wrap (((k : Nat) : Int) + 1))) : PX.PV) = (.sc (.int .i64 ((k + 1 : Nat) : Int))))] [] [.au, .nm (.sc (.int .i64 ((k + 1 : Nat) : Int))), .au] [0, 3, 4, 5] [3] hS hE ⟨PX.nm_int (by rw [IntWalk.i64_in _ (by omega)]; omega), trivial⟩ fun a w hS => ?_
      have hc : cndL l k = true := h6
      have e2 : (((stL l (k)).1.map encS) : List (List PX.PV)).length + 1 = (stL l (k + 1)).1.length := by rw [stL_yes hc]; simp
      have e1 : (((stL l (k)).1.map encS) ++ [[(.sc (PX.sV ((l.take k).drop (stL l (k)).2)))]]) = (stL l (k + 1)).1.map encS := by rw [stL_yes hc]; simp [encS]
      rw [e2, e1] at hS
      replace hS := PX.sl [0, 3, 4, 5] (PX.reslot (t := 4) (.sc (.int .i64 (((stL l (k + 1)).2 : Nat) : Int))) hS rfl (fun _ _ _ _ h => (show ((.sc (.int .i64 ((k + 1 : Nat) : Int))) : PX.PV) = (.sc (.int .i64 (((stL l (k + 1)).2 : Nat) : Int))) from by rw [stL_yes hc]) ▸ h))
      exact ⟨(l.length + 1) - (k + 1), by omega, k + 1, rfl, by omega, trivial, (PX.canon [(1, 3)] _ _ 2 hS hE (by kernel_rfl) (by kernel_rfl) (by kernel_rfl))⟩
    · skip
      refine wp_skip ?_
      refine hK5 _ _ ?_
      refine PX.G0 [⟨5, [], (.sc (.int .i64 ((k + 1 : Nat) : Int)))⟩] [] 2 [.q ((.sc (.int .i64 (IntKind.i64.wrap (((k : Nat) : Int) + 1))) : PX.PV) = (.sc (.int .i64 ((k + 1 : Nat) : Int))))] [] [.au, .nm (.sc (.int .i64 ((k + 1 : Nat) : Int))), .au] [0, 3, 4, 5] [1] hS hE ⟨PX.nm_int (by rw [IntWalk.i64_in _ (by omega)]; omega), trivial⟩ fun a w hS => ?_
      have hc : cndL l k = false := h6
      rw [← stL_no hc] at hS
      exact ⟨(l.length + 1) - (k + 1), by omega, k + 1, rfl, by omega, trivial, (PX.canon [] _ _ 2 hS hE (by kernel_rfl) (by kernel_rfl) (by kernel_rfl))⟩
  · skip
    refine wp_exit ?_
    refine hK1 _ _ ?_
    have hke : k = l.length + 1 := by have := h4; simp at this; omega
    subst hke
    rw [stL_end] at hS
    replace hS := PX.fz 1 [⟨3, [], (.imm 1 ((linesL l).map encS))⟩] [] [0, 3, 4, 5, 10] [] [.b (PX.lenIs ((linesL l).length) ((linesL l).map encS))] hS ⟨(by simp [PX.lenIs]), trivial⟩
    refine PX.G [⟨2, [], (.imm 1 ((linesL l).map encS))⟩] [] 2 [] [] [.au, .au] [2] [] hS hE trivial fun a w hS => ?_
    refine wp_ret ?_
    try simp only [Exit.then, Exit.inBlock, Nat.reduceEqDiff, ↓reduceIte]
    rw [show (.imm 1 ((linesL l).map encS)) = ((.imm 1 ((linesL l).map encS)) : PX.PV) from rfl]
    exact PX.ret_s hS hE (by kernel_rfl) (by kernel_rfl) (by kernel_rfl) (.inl rfl)
end Go.Proofs.YtlaiafalilcgjaaGreatDoor
namespace Go.Proofs.YtlaiafalilcgjaaGreatDoor
open Go.RowKit Go.PX
set_option maxRecDepth 100000
set_option maxHeartbeats 400000 in
theorem con_list (l : List Nat) (hl : l.length ≤ 1000000) : PX.Con Tryz.prog 13 [(.imm 1 (l.map encN)), (.imm 1 (l.map encN))] [] 1 100000 (.sc (.bool true)) [] := by
  refine PX.con_intro [(.imm 1 (l.map encN)), (.imm 1 (l.map encN))] 26 Tryz.func13 rfl rfl (by kernel_rfl) (by kernel_rfl) ?_
  intro E a hE hS
  generalize E.w0 = w at hS ⊢
  have mix := mixed
  refine PX.G [] [] 1 [] [] [.au] [0, 1] [] hS hE trivial fun a w hS => ?_
  refine wp_seq_k fun K1 hK1 => ?_
  refine PX.G [⟨10, [], (.sc (.bool (((l.length : Nat) : Int) != ((l.length : Nat) : Int))))⟩] [] 1 [.q ((.sc (.int .i64 (((l.map encN).length : Nat) : Int)) : PX.PV) = (.sc (.int .i64 ((l.length : Nat) : Int)))), .q ((.sc (.int .i64 (((l.map encN).length : Nat) : Int)) : PX.PV) = (.sc (.int .i64 ((l.length : Nat) : Int))))] [] [.au, .nm (.sc (.int .i64 ((l.length : Nat) : Int))), .au, .nm (.sc (.int .i64 ((l.length : Nat) : Int))), .au] [0, 1, 10] [] hS hE ⟨PX.nm_len (by simp), PX.nm_len (by simp), trivial⟩ fun a w hS => ?_
  refine PX.cond_s (((l.length : Nat) : Int) != ((l.length : Nat) : Int)) hS (by kernel_rfl) (fun h2 => ?_) (fun h2 => ?_)
  · skip
    simp at h2
  · skip
    refine wp_skip ?_
    refine hK1 _ _ ?_
    refine wp_seq_k fun K3 hK3 => ?_
    refine PX.G [⟨5, [], (.sc (.int .i64 0))⟩] [] 1 [] [] [.au] [0, 1, 5] [] hS hE trivial fun a w hS => ?_
    refine wp_block ?_
    refine wp_loop_ghost (fun m4 a' w' => ∃ k : Nat, m4 = l.length - k ∧ k ≤ l.length ∧ True ∧ PX.Sat E 26 [⟨0, [], (.imm 1 (l.map encN))⟩, ⟨1, [], (.imm 1 (l.map encN))⟩, ⟨5, [], (.sc (.int .i64 ((k : Nat) : Int)))⟩] [] 1 a' w') (l.length - 0) ⟨0, rfl, Nat.zero_le _, trivial, (PX.canon [] _ _ 1 hS hE (by kernel_rfl) (by kernel_rfl) (by kernel_rfl))⟩ ?_
    clear hS; rintro m4 a w ⟨k, hm4, hlek, hIk, hS⟩
    refine wp_seq_k fun K5 hK5 => ?_
    refine PX.G [⟨14, [], (.sc (.bool (decide (((k : Nat) : Int) < ((l.length : Nat) : Int)))))⟩] [] 1 [.q ((.sc (.int .i64 (((l.map encN).length : Nat) : Int)) : PX.PV) = (.sc (.int .i64 ((l.length : Nat) : Int))))] [] [.au, .au, .nm (.sc (.int .i64 ((l.length : Nat) : Int))), .au] [0, 1, 5, 14] [] hS hE ⟨PX.nm_len (by simp), trivial⟩ fun a w hS => ?_
    refine PX.cond_s (decide (((k : Nat) : Int) < ((l.length : Nat) : Int))) hS (by kernel_rfl) (fun h6 => ?_) (fun h6 => ?_)
    · skip
      refine wp_skip ?_
      refine hK5 _ _ ?_
      refine wp_seq_k fun K7 hK7 => ?_
      refine wp_block ?_
      have hlt : k < l.length := by simpa using h6
      obtain ⟨y, hy⟩ := get_of_lt hlt
      refine PX.D [⟨25, [], (.sc (.bool (((y : Nat) : Int) != ((y : Nat) : Int))))⟩] [] 1 [.q (((k : Nat) : Int) = ((k : Nat) : Int)), .q ((l.map encN)[k]? = some (encN y)), .q (((k : Nat) : Int) = ((k : Nat) : Int)), .q ((l.map encN)[k]? = some (encN y))] [] [.au, .au, .ix k (encN y), .au, .au, .au, .ix k (encN y), .au, .au] [0, 1, 5, 25] [] hS mixed hE ⟨rfl, PX.map_get hy, rfl, PX.map_get hy, trivial⟩ fun a w hS => ?_
      refine PX.cond_s (((y : Nat) : Int) != ((y : Nat) : Int)) hS (by kernel_rfl) (fun h8 => ?_) (fun h8 => ?_)
      · skip
        simp at h8
      · skip
        refine wp_skip ?_
        refine hK7 _ _ ?_
        refine PX.G0 [⟨5, [], (.sc (.int .i64 ((k + 1 : Nat) : Int)))⟩] [] 1 [.q ((.sc (.int .i64 (IntKind.i64.wrap (((k : Nat) : Int) + 1))) : PX.PV) = (.sc (.int .i64 ((k + 1 : Nat) : Int))))] [] [.au, .nm (.sc (.int .i64 ((k + 1 : Nat) : Int))), .au] [0, 1, 5] [] hS hE ⟨PX.nm_int (by rw [IntWalk.i64_in _ (by omega)]; omega), trivial⟩ fun a w hS => ?_
        exact ⟨l.length - (k + 1), by omega, k + 1, rfl, by omega, trivial, (PX.canon [] _ _ 1 hS hE (by kernel_rfl) (by kernel_rfl) (by kernel_rfl))⟩
    · skip
      refine wp_exit ?_
      refine hK3 _ _ ?_
      refine PX.G [⟨4, [], (.sc (.bool true))⟩] [] 1 [] [] [.au] [4] [] hS hE trivial fun a w hS => ?_
      refine wp_ret ?_
      try simp only [Exit.then, Exit.inBlock, Nat.reduceEqDiff, ↓reduceIte]
      rw [show (.sc (.bool true)) = ((.sc (.bool true)) : PX.PV) from rfl]
      exact PX.ret_s hS hE (by kernel_rfl) (by kernel_rfl) (by kernel_rfl) (.inl rfl)
end Go.Proofs.YtlaiafalilcgjaaGreatDoor
namespace Go.Proofs.YtlaiafalilcgjaaGreatDoor
open Go.RowKit Go.PX
set_option maxRecDepth 100000
set_option maxHeartbeats 400000 in
theorem con_98 (l0 l1 : Int) (ss ps : List (List PX.PV)) : PX.Con Tryz.prog 98 [(.agg [(.sc (.int .i64 l0)), (.sc (.int .i64 l1)), (.sc ((.slice none 0 0))), (.imm 3 ss), (.imm 11 ps)])] [] 1 100000 (.fn 174 [] [.ptr 1 0]) [(1, some (.box 67 [.sc (.int .i64 l0), .sc (.int .i64 l1), .sc (.slice none 0 0), .imm 3 ss, .imm 11 ps]))] := by
  refine PX.con_intro [(.agg [(.sc (.int .i64 l0)), (.sc (.int .i64 l1)), (.sc ((.slice none 0 0))), (.imm 3 ss), (.imm 11 ps)])] 4 Tryz.func98 rfl rfl (by kernel_rfl) (by kernel_rfl) ?_
  intro E a hE hS
  generalize E.w0 = w at hS ⊢
  have mix := mixed
  refine PX.G [⟨1, [], (.ptr 1 0)⟩] [(1, .box 67 [(.sc (.int .i64 l0)), (.sc (.int .i64 l1)), (.sc ((.slice none 0 0))), (.imm 3 ss), (.imm 11 ps)])] 2 [] [] [.au, .au] [1] [1] hS hE trivial fun a w hS => ?_
  refine PX.G [⟨2, [], (.fn 174 [] [(.ptr 1 0)])⟩] [] 2 [] [] [.au, .au] [2] [1] hS hE trivial fun a w hS => ?_
  refine wp_ret ?_
  try simp only [Exit.then, Exit.inBlock, Nat.reduceEqDiff, ↓reduceIte]
  exact PX.ret_s hS hE (by kernel_rfl) (by kernel_rfl) (by kernel_rfl) (.inl rfl)
end Go.Proofs.YtlaiafalilcgjaaGreatDoor
namespace Go.PX
open Go.RowKit Go.SX
def updRow : Heap → Nat → List (List PV) → Heap
  | [], _, _ => []
  | x :: H, id, r => bif Nat.beq x.1 id then (match x.2 with
    | .row e sz p _ => (x.1, .row e sz p r)
    | o => (x.1, o)) :: H else x :: updRow H id r
theorem updRow_same {id : Nat} {e : TypeId} {sz : Nat} {p : Bool} {rows : List (List PV)} : ∀ {H : Heap}, hlook H id = some (.row e sz p rows) → updRow H id rows = H
  | x :: H, h => by
    simp only [hlook] at h
    unfold updRow
    cases hb : Nat.beq x.1 id with
    | true =>
      rw [hb] at h
      simp only [cond_true, Option.some.injEq] at h ⊢
      obtain ⟨i, o⟩ := x
      simp only at h
      subst h; rfl
    | false =>
      rw [hb] at h
      simp only [cond_false] at h ⊢
      rw [updRow_same h]
theorem rerow {E : Env} {N : Nat} {R : List Ent} {H : Heap} {nx : Nat} {a : Act} {w : World} {id : Nat} {e : TypeId} {sz : Nat} {p : Bool} {rows : List (List PV)} (rows' : List (List PV)) (hS : Sat E N R H nx a w) (hl : hlook H id = some (.row e sz p rows)) (he : rows = rows') : Sat E N R (updRow H id rows') nx a w := by
  subst he; rw [updRow_same hl]; exact hS
/-- an array of ints in a variable: its cells -/
def c1 (x : Int) : PV := .sc (.int .i64 x)
theorem c1_get {l : List Int} {k : Nat} {z : Int} (h : l[k]? = some z) : ((l.map c1).drop (0 + k * 1)).take ([c1 z] : List PV).length = [c1 z] := by
  rw [Nat.zero_add, Nat.mul_one]
  obtain ⟨hk, rfl⟩ := List.getElem?_eq_some_iff.1 h
  rw [List.drop_eq_getElem_cons (by simpa using hk)]
  simp
theorem c1_over {l : List Int} {k : Nat} (hk : k < l.length) (z : Int) : over (l.map c1) (0 + k * 1) [c1 z] = (l.set k z).map c1 := by
  rw [Nat.zero_add, Nat.mul_one, List.map_set, List.set_eq_take_append_cons_drop, if_pos (by simpa using hk)]
  unfold over; simp
theorem c1_len {l : List Int} {k : Nat} (hk : k < l.length) : 0 + k * 1 + 1 ≤ (l.map c1).length := by simp; omega
def g (l : List Int) (i : Nat) : Int := (l[i]?).getD 0
/-- the cells of an array of thirteen ints, one by one -/
def cells13 (l : List Int) : List PV := [c1 (g l 0), c1 (g l 1), c1 (g l 2), c1 (g l 3), c1 (g l 4), c1 (g l 5), c1 (g l 6), c1 (g l 7), c1 (g l 8), c1 (g l 9), c1 (g l 10), c1 (g l 11), c1 (g l 12)]
theorem cells13_eq {l : List Int} (h : l.length = 13) : cells13 l = l.map c1 := by
  match l, h with
  | [_, _, _, _, _, _, _, _, _, _, _, _, _], _ => rfl
theorem cells13_get {l : List Int} {k : Nat} {z : Int} (hl : l.length = 13) (h : l[k]? = some z) : ((cells13 l).drop (0 + k * 1)).take ([c1 z] : List PV).length = [c1 z] := by rw [cells13_eq hl]; exact c1_get h
theorem cells13_over {l : List Int} {k : Nat} (hl : l.length = 13) (hk : k < 13) (z : Int) : over (cells13 l) (0 + k * 1) [c1 z] = cells13 (l.set k z) := by
  rw [cells13_eq hl, cells13_eq (by simpa using hl)]; exact c1_over (by omega) z
theorem cells13_len {l : List Int} {k : Nat} (hk : k < 13) : 0 + k * 1 + 1 ≤ (cells13 l).length := by simp [cells13]; omega
theorem find_range {p : Nat → Bool} {n j : Nat} (hj : j < n) (h : ∀ i, i < j → p i = false) (hp : p j = true) : (List.range n).find? p = some j := by
  rw [List.find?_eq_some_iff_append]
  refine ⟨hp, List.range j, (List.range (n - (j + 1))).map (· + (j + 1)), ?_, fun a ha => by rw [h a (List.mem_range.1 ha)]; rfl⟩
  apply List.ext_getElem? 
  intro i
  rcases Nat.lt_trichotomy i j with q | q | q
  · rw [List.getElem?_append_left (by simpa using q)]; simp [q, Nat.lt_trans q hj]
  · subst q; rw [List.getElem?_append_right (by simp)]; simp [hj]
  · rw [List.getElem?_append_right (by simp; omega)]
    obtain ⟨d, rfl⟩ : ∃ d, i = j + 1 + d := ⟨i - (j + 1), by omega⟩
    simp only [List.length_range, show j + 1 + d - j = d + 1 by omega, List.getElem?_cons_succ, List.getElem?_map]
    by_cases hd : j + 1 + d < n
    · rw [List.getElem?_range hd, List.getElem?_range (show d < n - (j + 1) by omega)]; simp [Nat.add_comm]
    · simp [hd, show ¬ d < n - (j + 1) by omega]
theorem find_range_none {p : Nat → Bool} {n : Nat} (h : ∀ i, i < n → p i = false) : (List.range n).find? p = none := by
  rw [List.find?_eq_none]; intro i hi; rw [h i (List.mem_range.1 hi)]; simp
def updBox : Heap → Nat → List PV → Heap
  | [], _, _ => []
  | x :: H, id, r => bif Nat.beq x.1 id then (match x.2 with
    | .box e _ => (x.1, .box e r)
    | o => (x.1, o)) :: H else x :: updBox H id r
theorem updBox_same {id : Nat} {e : TypeId} {xs : List PV} : ∀ {H : Heap}, hlook H id = some (.box e xs) → updBox H id xs = H
  | x :: H, h => by
    simp only [hlook] at h
    unfold updBox
    cases hb : Nat.beq x.1 id with
    | true =>
      rw [hb] at h
      simp only [cond_true, Option.some.injEq] at h ⊢
      obtain ⟨i, o⟩ := x
      simp only at h
      subst h; rfl
    | false =>
      rw [hb] at h
      simp only [cond_false] at h ⊢
      rw [updBox_same h]
theorem rebox {E : Env} {N : Nat} {R : List Ent} {H : Heap} {nx : Nat} {a : Act} {w : World} {id : Nat} {e : TypeId} {xs : List PV} (xs' : List PV) (hS : Sat E N R H nx a w) (hl : hlook H id = some (.box e xs)) (he : xs = xs') : Sat E N R (updBox H id xs') nx a w := by
  subst he; rw [updBox_same hl]; exact hS
end Go.PX
