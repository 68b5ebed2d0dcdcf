/- Proved: breakpoint.isFalse, breakpoint.Hit -/
import Derived.Test.YtlaiafalilcgjaaGreatDoorQL5
set_option linter.unusedVariables false
set_option linter.unusedSimpArgs false
namespace Go.Proofs.YtlaiafalilcgjaaGreatDoor
open Go.RowKit Go.PX
set_option maxRecDepth 100000
theorem mixed : Tryz.prog.follows .mixedOrders = true := by kernel_rfl

set_option maxHeartbeats 400000 in
theorem con_isF (d : DatD) : PX.Con Tryz.prog 26 [(.agg [(.sc (.int .i64 d.kd)), (.sc (.int .i64 d.rc)), (.imm 1 (d.kn.map encT)), (.imm 1 (d.wo.map encI))])] [] 1 100000 (.sc (.bool (isF d))) [] := by
  refine PX.con_intro [(.agg [(.sc (.int .i64 d.kd)), (.sc (.int .i64 d.rc)), (.imm 1 (d.kn.map encT)), (.imm 1 (d.wo.map encI))])] 31 Tryz.func26 rfl rfl (by kernel_rfl) (by kernel_rfl) ?_
  intro E a hE hS
  generalize E.w0 = w at hS ⊢
  have mix := mixed
  refine PX.G [⟨1, [], (.ptr 1 0)⟩] [(1, .box 41 [(.sc (.int .i64 d.kd)), (.sc (.int .i64 d.rc)), (.imm 1 (d.kn.map encT)), (.imm 1 (d.wo.map encI))])] 2 [] [] [.au, .au] [1] [1] hS hE trivial fun a w hS => ?_
  refine PX.G [⟨2, [], (.sc (.bool (((((d.kd == 1) && (((d.kn.length : Nat) : Int) == 1)) && (((d.wo.length : Nat) : Int) == 1)) && (d.kn.headD false)) && ((d.wo.headD 0) == 0))))⟩] [] 2 [.q (SX.pv [(3, (d.kd == 1)), (9, ((d.kd == 1) && (((d.kn.length : Nat) : Int) == 1))), (15, (((d.kd == 1) && (((d.kn.length : Nat) : Int) == 1)) && (((d.wo.length : Nat) : Int) == 1))), (21, ((((d.kd == 1) && (((d.kn.length : Nat) : Int) == 1)) && (((d.wo.length : Nat) : Int) == 1)) && (d.kn.headD false)))] [(3, true)] = true → PX.AllOb [.q ((.sc (.int .i64 (((d.kn.map encT).length : Nat) : Int)) : PX.PV) = (.sc (.int .i64 ((d.kn.length : Nat) : Int))))]), .q (SX.pv [(3, (d.kd == 1)), (9, ((d.kd == 1) && (((d.kn.length : Nat) : Int) == 1))), (15, (((d.kd == 1) && (((d.kn.length : Nat) : Int) == 1)) && (((d.wo.length : Nat) : Int) == 1))), (21, ((((d.kd == 1) && (((d.kn.length : Nat) : Int) == 1)) && (((d.wo.length : Nat) : Int) == 1)) && (d.kn.headD false)))] [(9, true)] = true → PX.AllOb [.q ((.sc (.int .i64 (((d.wo.map encI).length : Nat) : Int)) : PX.PV) = (.sc (.int .i64 ((d.wo.length : Nat) : Int))))]), .q (SX.pv [(3, (d.kd == 1)), (9, ((d.kd == 1) && (((d.kn.length : Nat) : Int) == 1))), (15, (((d.kd == 1) && (((d.kn.length : Nat) : Int) == 1)) && (((d.wo.length : Nat) : Int) == 1))), (21, ((((d.kd == 1) && (((d.kn.length : Nat) : Int) == 1)) && (((d.wo.length : Nat) : Int) == 1)) && (d.kn.headD false)))] [(15, true)] = true → PX.AllOb [.q (0 = ((0 : Nat) : Int)), .q ((d.kn.map encT)[0]? = some (encT (d.kn.headD false)))]), .q (SX.pv [(3, (d.kd == 1)), (9, ((d.kd == 1) && (((d.kn.length : Nat) : Int) == 1))), (15, (((d.kd == 1) && (((d.kn.length : Nat) : Int) == 1)) && (((d.wo.length : Nat) : Int) == 1))), (21, ((((d.kd == 1) && (((d.kn.length : Nat) : Int) == 1)) && (((d.wo.length : Nat) : Int) == 1)) && (d.kn.headD false)))] [(21, true)] = true → PX.AllOb [.q (0 = ((0 : Nat) : Int)), .q ((d.wo.map encI)[0]? = some (encI (d.wo.headD 0)))])] [(3, (d.kd == 1)), (9, ((d.kd == 1) && (((d.kn.length : Nat) : Int) == 1))), (15, (((d.kd == 1) && (((d.kn.length : Nat) : Int) == 1)) && (((d.wo.length : Nat) : Int) == 1))), (21, ((((d.kd == 1) && (((d.kn.length : Nat) : Int) == 1)) && (((d.wo.length : Nat) : Int) == 1)) && (d.kn.headD false)))] [.au, .au, .au, .au, .au, .au, .nm (.sc (.int .i64 ((d.kn.length : Nat) : Int))), .au, .pk, .au, .au, .au, .nm (.sc (.int .i64 ((d.wo.length : Nat) : Int))), .au, .pk, .au, .au, .au, .ix 0 (encT (d.kn.headD false)), .au, .pk, .au, .au, .au, .ix 0 (encI (d.wo.headD 0)), .au, .au, .pk, .au] [2] [] hS hE ⟨fun hg => ⟨PX.nm_len (by simp), trivial⟩, fun hg => ⟨PX.nm_len (by simp), trivial⟩, fun hg => ⟨by omega, PX.map_get (by simp [SX.pv, SX.kv] at hg; exact head_at (by simp [hg])), trivial⟩, fun hg => ⟨by omega, PX.map_get (by simp [SX.pv, SX.kv] at hg; exact head_at (by simp [hg])), trivial⟩, trivial⟩ fun a w hS => ?_
  refine wp_ret ?_
  try simp only [Exit.then, Exit.inBlock, Nat.reduceEqDiff, ↓reduceIte]
  rw [show (.sc (.bool (isF d))) = ((.sc (.bool (((((d.kd == 1) && (((d.kn.length : Nat) : Int) == 1)) && (((d.wo.length : Nat) : Int) == 1)) && (d.kn.headD false)) && ((d.wo.headD 0) == 0)))) : PX.PV) from rfl]
  exact PX.ret_s hS hE (by kernel_rfl) (by kernel_rfl) (by kernel_rfl) (.inl rfl)

set_option maxHeartbeats 400000 in
theorem con_hit (b : BrkD) (t : Int) (c : DatD) (f : Int) (hl : b.ad.length ≤ 1000000) : PX.Con Tryz.prog 18 [(.agg [(.sc (.int .i64 b.id)), (.sc (.int .i64 b.ig)), (.sc (.int .i64 b.hi)), (.sc (.int .i64 b.th)), (.sc (.int .i64 b.ln)), (.sc (PX.sV b.wh)), (.sc (PX.sV b.co)), (.sc (.bool b.on)), (.imm 1 (b.ad.map encI))]), (.sc (.int .i64 t)), (.agg [(.sc (.int .i64 c.kd)), (.sc (.int .i64 c.rc)), (.imm 1 (c.kn.map encT)), (.imm 1 (c.wo.map encI))]), (.sc (.int .i64 f))] [] 1 100000 (.tup [.agg (encK (hitD b t c f).1), .sc (.bool (hitD b t c f).2)]) [] := by
  refine PX.con_intro [(.agg [(.sc (.int .i64 b.id)), (.sc (.int .i64 b.ig)), (.sc (.int .i64 b.hi)), (.sc (.int .i64 b.th)), (.sc (.int .i64 b.ln)), (.sc (PX.sV b.wh)), (.sc (PX.sV b.co)), (.sc (.bool b.on)), (.imm 1 (b.ad.map encI))]), (.sc (.int .i64 t)), (.agg [(.sc (.int .i64 c.kd)), (.sc (.int .i64 c.rc)), (.imm 1 (c.kn.map encT)), (.imm 1 (c.wo.map encI))]), (.sc (.int .i64 f))] 57 Tryz.func18 rfl rfl (by kernel_rfl) (by kernel_rfl) ?_
  intro E a hE hS
  generalize E.w0 = w at hS ⊢
  have mix := mixed
  refine PX.G [⟨4, [], (.ptr 1 0)⟩, ⟨6, [], (.ptr 2 0)⟩, ⟨8, [], (.ptr 3 0)⟩] [(1, .box 38 [(.sc (.int .i64 b.id)), (.sc (.int .i64 b.ig)), (.sc (.int .i64 b.hi)), (.sc (.int .i64 b.th)), (.sc (.int .i64 b.ln)), (.sc (PX.sV b.wh)), (.sc (PX.sV b.co)), (.sc (.bool b.on)), (.imm 1 (b.ad.map encI))]), (2, .box 41 [(.sc (.int .i64 c.kd)), (.sc (.int .i64 c.rc)), (.imm 1 (c.kn.map encT)), (.imm 1 (c.wo.map encI))]), (3, .box 38 [(.sc (.int .i64 0)), (.sc (.int .i64 0)), (.sc (.int .i64 0)), (.sc (.int .i64 0)), (.sc (.int .i64 0)), (.sc (PX.sV [])), (.sc (PX.sV [])), (.sc (.bool false)), (.sc (.slice none 0 0))])] 4 [] [] [.au, .au, .au, .au] [1, 3, 4, 6, 8] [1, 2, 3] hS hE trivial fun a w hS => ?_
  refine PX.G [] [(1, .box 38 [(.sc (.int .i64 b.id)), (.sc (.int .i64 b.ig)), (.sc (.int .i64 b.hi)), (.sc (.int .i64 b.th)), (.sc (.int .i64 b.ln)), (.sc (PX.sV b.wh)), (.sc (PX.sV b.co)), (.sc (.bool b.on)), (.own 4 1 (0 + (b.ad.map encI).length))]), (4, .row 3 1 true (b.ad.map encI))] 5 [.b true, .b true, .b (Nat.ble (0 + (b.ad.map encI).length) 1000000000)] [] [.au, .au, .au, .au, .au] [1, 3, 4, 6, 8] [1, 2, 3, 4] hS hE ⟨rfl, rfl, by simp; omega, trivial⟩ fun a w hS => ?_
  replace hS := PX.fz 4 [] [(1, .box 38 [(.sc (.int .i64 b.id)), (.sc (.int .i64 b.ig)), (.sc (.int .i64 b.hi)), (.sc (.int .i64 b.th)), (.sc (.int .i64 b.ln)), (.sc (PX.sV b.wh)), (.sc (PX.sV b.co)), (.sc (.bool b.on)), (.imm 1 (b.ad.map encI))])] [1, 3, 4, 6, 8] [1, 2, 3] [.b (PX.lenIs (0 + (b.ad.map encI).length) (b.ad.map encI))] hS ⟨(by simp [PX.lenIs]), trivial⟩
  refine wp_seq_k fun K1 hK1 => ?_
  refine PX.G [⟨22, [], (.sc (.bool ((b.th != (-1)) && (b.th != t))))⟩] [] 5 [] [(3, (b.th != (-1)))] [.au, .au, .au, .au, .au, .au, .au, .au, .pk] [3, 4, 6, 8, 22] [1, 2, 3] hS hE trivial fun a w hS => ?_
  refine PX.cond_s ((b.th != (-1)) && (b.th != t)) hS (by kernel_rfl) (fun h2 => ?_) (fun h2 => ?_)
  · skip
    refine PX.G [⟨9, [], (.sc (.bool false))⟩] [(3, .box 38 [(.sc (.int .i64 b.id)), (.sc (.int .i64 b.ig)), (.sc (.int .i64 b.hi)), (.sc (.int .i64 b.th)), (.sc (.int .i64 b.ln)), (.sc (PX.sV b.wh)), (.sc (PX.sV b.co)), (.sc (.bool b.on)), (.imm 1 (b.ad.map encI))])] 5 [] [] [.au, .au, .au] [8, 9] [3] hS hE trivial fun a w hS => ?_
    refine wp_ret ?_
    try simp only [Exit.then, Exit.inBlock, Nat.reduceEqDiff, ↓reduceIte]
    rw [show (.tup [.agg (encK (hitD b t c f).1), .sc (.bool (hitD b t c f).2)]) = ((.tup [(.agg [(.sc (.int .i64 b.id)), (.sc (.int .i64 b.ig)), (.sc (.int .i64 b.hi)), (.sc (.int .i64 b.th)), (.sc (.int .i64 b.ln)), (.sc (PX.sV b.wh)), (.sc (PX.sV b.co)), (.sc (.bool b.on)), (.imm 1 (b.ad.map encI))]), (.sc (.bool false))]) : PX.PV) from by unfold hitD; rw [h2]; rfl]
    exact PX.ret_s hS hE (by kernel_rfl) (by kernel_rfl) (by kernel_rfl) (.inl rfl)
  · skip
    refine wp_skip ?_
    refine hK1 _ _ ?_
    refine wp_seq_k fun K3 hK3 => ?_
    refine PX.G [⟨34, [], (.sc (.bool (((!(b.co == ([] : List UInt8))) && (f == 0)) && (isF c))))⟩] [] 5 [.q (PX.BinIs Tryz.prog .neq 9 (.tmp 25) (.const (.string ⟨#[]⟩)) (PX.sV b.co) (PX.sV []) (.bool (!(b.co == ([] : List UInt8))))), .q (SX.pv [(3, (!(b.co == ([] : List UInt8)))), (7, ((!(b.co == ([] : List UInt8))) && (f == 0)))] [(7, true)] = true → PX.AllOb [.q (PX.Con Tryz.prog 26 [(.agg [(.sc (.int .i64 c.kd)), (.sc (.int .i64 c.rc)), (.imm 1 (c.kn.map encT)), (.imm 1 (c.wo.map encI))])] [] 5 5 (.sc (.bool (isF c))) [])])] [(3, (!(b.co == ([] : List UInt8)))), (7, ((!(b.co == ([] : List UInt8))) && (f == 0)))] [.au, .au, .bs (.bool (!(b.co == ([] : List UInt8)))), .au, .au, .au, .pk, .au, .au, .cl [] (.sc (.bool (isF c))) [] 5, .pk] [3, 4, 8, 34] [1, 3] hS hE ⟨PX.str_ne _ _, fun hg => ⟨PX.con_any (con_isF c), trivial⟩, trivial⟩ fun a w hS => ?_
    refine PX.cond_s (((!(b.co == ([] : List UInt8))) && (f == 0)) && (isF c)) hS (by kernel_rfl) (fun h4 => ?_) (fun h4 => ?_)
    · skip
      refine PX.G [⟨9, [], (.sc (.bool false))⟩] [(3, .box 38 [(.sc (.int .i64 b.id)), (.sc (.int .i64 b.ig)), (.sc (.int .i64 b.hi)), (.sc (.int .i64 b.th)), (.sc (.int .i64 b.ln)), (.sc (PX.sV b.wh)), (.sc (PX.sV b.co)), (.sc (.bool b.on)), (.imm 1 (b.ad.map encI))])] 5 [] [] [.au, .au, .au] [8, 9] [3] hS hE trivial fun a w hS => ?_
      refine wp_ret ?_
      try simp only [Exit.then, Exit.inBlock, Nat.reduceEqDiff, ↓reduceIte]
      rw [show (.tup [.agg (encK (hitD b t c f).1), .sc (.bool (hitD b t c f).2)]) = ((.tup [(.agg [(.sc (.int .i64 b.id)), (.sc (.int .i64 b.ig)), (.sc (.int .i64 b.hi)), (.sc (.int .i64 b.th)), (.sc (.int .i64 b.ln)), (.sc (PX.sV b.wh)), (.sc (PX.sV b.co)), (.sc (.bool b.on)), (.imm 1 (b.ad.map encI))]), (.sc (.bool false))]) : PX.PV) from by unfold hitD; rw [h2, h4]; rfl]
      exact PX.ret_s hS hE (by kernel_rfl) (by kernel_rfl) (by kernel_rfl) (.inl rfl)
    · skip
      refine wp_skip ?_
      refine hK3 _ _ ?_
      refine PX.G [] [(1, .box 38 [(.sc (.int .i64 b.id)), (.sc (.int .i64 b.ig)), (.sc (.int .i64 (IntKind.i64.wrap (b.hi + 1)))), (.sc (.int .i64 b.th)), (.sc (.int .i64 b.ln)), (.sc (PX.sV b.wh)), (.sc (PX.sV b.co)), (.sc (.bool b.on)), (.imm 1 (b.ad.map encI))])] 5 [] [] [.au, .au, .au, .au, .au] [3, 4, 8] [1, 3] hS hE trivial fun a w hS => ?_
      refine wp_seq_k fun K5 hK5 => ?_
      refine PX.G [⟨46, [], (.sc (.bool ((!(b.co == ([] : List UInt8))) && (f != 0))))⟩] [] 5 [.q (PX.BinIs Tryz.prog .neq 9 (.tmp 41) (.const (.string ⟨#[]⟩)) (PX.sV b.co) (PX.sV []) (.bool (!(b.co == ([] : List UInt8)))))] [(3, (!(b.co == ([] : List UInt8))))] [.au, .au, .bs (.bool (!(b.co == ([] : List UInt8)))), .au, .au, .au, .pk] [4, 8, 46] [1, 3] hS hE ⟨PX.str_ne _ _, trivial⟩ fun a w hS => ?_
      refine PX.cond_s ((!(b.co == ([] : List UInt8))) && (f != 0)) hS (by kernel_rfl) (fun h6 => ?_) (fun h6 => ?_)
      · skip
        refine PX.G [⟨9, [], (.sc (.bool true))⟩] [(3, .box 38 [(.sc (.int .i64 b.id)), (.sc (.int .i64 b.ig)), (.sc (.int .i64 (IntKind.i64.wrap (b.hi + 1)))), (.sc (.int .i64 b.th)), (.sc (.int .i64 b.ln)), (.sc (PX.sV b.wh)), (.sc (PX.sV b.co)), (.sc (.bool b.on)), (.imm 1 (b.ad.map encI))])] 5 [] [] [.au, .au, .au] [8, 9] [3] hS hE trivial fun a w hS => ?_
        refine wp_ret ?_
        try simp only [Exit.then, Exit.inBlock, Nat.reduceEqDiff, ↓reduceIte]
        rw [show (.tup [.agg (encK (hitD b t c f).1), .sc (.bool (hitD b t c f).2)]) = ((.tup [(.agg [(.sc (.int .i64 b.id)), (.sc (.int .i64 b.ig)), (.sc (.int .i64 (IntKind.i64.wrap (b.hi + 1)))), (.sc (.int .i64 b.th)), (.sc (.int .i64 b.ln)), (.sc (PX.sV b.wh)), (.sc (PX.sV b.co)), (.sc (.bool b.on)), (.imm 1 (b.ad.map encI))]), (.sc (.bool true))]) : PX.PV) from by unfold hitD; rw [h2, h4, h6]; rfl]
        exact PX.ret_s hS hE (by kernel_rfl) (by kernel_rfl) (by kernel_rfl) (.inl rfl)
      · skip
        refine wp_skip ?_
        refine hK5 _ _ ?_
        refine wp_seq_k fun K7 hK7 => ?_
        refine PX.G [⟨50, [], (.sc (.bool (decide (0 < b.ig))))⟩] [] 5 [] [] [.au, .au, .au] [4, 8, 50] [1, 3] hS hE trivial fun a w hS => ?_
        refine PX.cond_s (decide (0 < b.ig)) hS (by kernel_rfl) (fun h8 => ?_) (fun h8 => ?_)
        · skip
          refine PX.G [] [(1, .box 38 [(.sc (.int .i64 b.id)), (.sc (.int .i64 (IntKind.i64.wrap (b.ig - 1)))), (.sc (.int .i64 (IntKind.i64.wrap (b.hi + 1)))), (.sc (.int .i64 b.th)), (.sc (.int .i64 b.ln)), (.sc (PX.sV b.wh)), (.sc (PX.sV b.co)), (.sc (.bool b.on)), (.imm 1 (b.ad.map encI))])] 5 [] [] [.au, .au, .au, .au, .au] [4, 8] [1, 3] hS hE trivial fun a w hS => ?_
          refine PX.G [⟨9, [], (.sc (.bool false))⟩] [(3, .box 38 [(.sc (.int .i64 b.id)), (.sc (.int .i64 (IntKind.i64.wrap (b.ig - 1)))), (.sc (.int .i64 (IntKind.i64.wrap (b.hi + 1)))), (.sc (.int .i64 b.th)), (.sc (.int .i64 b.ln)), (.sc (PX.sV b.wh)), (.sc (PX.sV b.co)), (.sc (.bool b.on)), (.imm 1 (b.ad.map encI))])] 5 [] [] [.au, .au, .au] [8, 9] [3] hS hE trivial fun a w hS => ?_
          refine wp_ret ?_
          try simp only [Exit.then, Exit.inBlock, Nat.reduceEqDiff, ↓reduceIte]
          rw [show (.tup [.agg (encK (hitD b t c f).1), .sc (.bool (hitD b t c f).2)]) = ((.tup [(.agg [(.sc (.int .i64 b.id)), (.sc (.int .i64 (IntKind.i64.wrap (b.ig - 1)))), (.sc (.int .i64 (IntKind.i64.wrap (b.hi + 1)))), (.sc (.int .i64 b.th)), (.sc (.int .i64 b.ln)), (.sc (PX.sV b.wh)), (.sc (PX.sV b.co)), (.sc (.bool b.on)), (.imm 1 (b.ad.map encI))]), (.sc (.bool false))]) : PX.PV) from by unfold hitD; rw [h2, h4, h6, h8]; rfl]
          exact PX.ret_s hS hE (by kernel_rfl) (by kernel_rfl) (by kernel_rfl) (.inl rfl)
        · skip
          refine wp_skip ?_
          refine hK7 _ _ ?_
          refine PX.G [⟨9, [], (.sc (.bool true))⟩] [(3, .box 38 [(.sc (.int .i64 b.id)), (.sc (.int .i64 b.ig)), (.sc (.int .i64 (IntKind.i64.wrap (b.hi + 1)))), (.sc (.int .i64 b.th)), (.sc (.int .i64 b.ln)), (.sc (PX.sV b.wh)), (.sc (PX.sV b.co)), (.sc (.bool b.on)), (.imm 1 (b.ad.map encI))])] 5 [] [] [.au, .au, .au] [8, 9] [3] hS hE trivial fun a w hS => ?_
          refine wp_ret ?_
          try simp only [Exit.then, Exit.inBlock, Nat.reduceEqDiff, ↓reduceIte]
          rw [show (.tup [.agg (encK (hitD b t c f).1), .sc (.bool (hitD b t c f).2)]) = ((.tup [(.agg [(.sc (.int .i64 b.id)), (.sc (.int .i64 b.ig)), (.sc (.int .i64 (IntKind.i64.wrap (b.hi + 1)))), (.sc (.int .i64 b.th)), (.sc (.int .i64 b.ln)), (.sc (PX.sV b.wh)), (.sc (PX.sV b.co)), (.sc (.bool b.on)), (.imm 1 (b.ad.map encI))]), (.sc (.bool true))]) : PX.PV) from by unfold hitD; rw [h2, h4, h6, h8]; rfl]
          exact PX.ret_s hS hE (by kernel_rfl) (by kernel_rfl) (by kernel_rfl) (.inl rfl)

def hitR (b : BrkD) (t : Int) (c : DatD) (f : Int) : BrkD × Bool :=
  bif ((b.th != (-1)) && (b.th != t)) then (b, false) else
  bif (((((((!(b.co == [])) && (!((!(b.co == [])) && (f != 0)))) && (c.kd == 1)) && ((c.wo.length : Int) == 1)) && ((c.kn.length : Int) == 1)) && c.kn.headD false) && (c.wo.headD 0 == 0)) then (b, false) else
  bif ((!((!(b.co == [])) && (f != 0))) && decide (0 < b.ig)) then ({ hits b with ig := IntKind.i64.wrap (b.ig - 1) }, false) else (hits b, true)
theorem hitR_eq (b : BrkD) (t : Int) (c : DatD) (f : Int) : hitR b t c f = hitD b t c f := by
  unfold hitR hitD isF
  have hq : (f != 0) = !(f == 0) := rfl
  rw [hq]
  generalize ((b.th != (-1)) && (b.th != t)) = x0
  generalize (b.co == []) = x1
  generalize (f == 0) = x2
  generalize (c.kd == 1) = x3
  generalize ((c.wo.length : Int) == 1) = x4
  generalize ((c.kn.length : Int) == 1) = x5
  generalize c.kn.headD false = x6
  generalize (c.wo.headD 0 == 0) = x7
  generalize decide (0 < b.ig) = x8
  cases x0 <;> cases x1 <;> cases x2 <;> cases x8 <;> simp [Bool.and_comm, Bool.and_left_comm, Bool.and_assoc]

set_option maxHeartbeats 400000 in
theorem con_hitR (b : BrkD) (t : Int) (c : DatD) (f : Int) : PX.Con Tryz.prog 19 [(.agg [(.sc (.int .i64 b.id)), (.sc (.int .i64 b.ig)), (.sc (.int .i64 b.hi)), (.sc (.int .i64 b.th)), (.sc (.int .i64 b.ln)), (.sc (PX.sV b.wh)), (.sc (PX.sV b.co)), (.sc (.bool b.on)), (.imm 1 (b.ad.map encI))]), (.sc (.int .i64 t)), (.agg [(.sc (.int .i64 c.kd)), (.sc (.int .i64 c.rc)), (.imm 1 (c.kn.map encT)), (.imm 1 (c.wo.map encI))]), (.sc (.int .i64 f))] [] 1 100000 (.tup [.agg (encK (hitD b t c f).1), .sc (.bool (hitD b t c f).2)]) [] := by
  refine PX.con_intro [(.agg [(.sc (.int .i64 b.id)), (.sc (.int .i64 b.ig)), (.sc (.int .i64 b.hi)), (.sc (.int .i64 b.th)), (.sc (.int .i64 b.ln)), (.sc (PX.sV b.wh)), (.sc (PX.sV b.co)), (.sc (.bool b.on)), (.imm 1 (b.ad.map encI))]), (.sc (.int .i64 t)), (.agg [(.sc (.int .i64 c.kd)), (.sc (.int .i64 c.rc)), (.imm 1 (c.kn.map encT)), (.imm 1 (c.wo.map encI))]), (.sc (.int .i64 f))] 83 Tryz.func19 rfl rfl (by kernel_rfl) (by kernel_rfl) ?_
  intro E a hE hS
  generalize E.w0 = w at hS ⊢
  have mix := mixed
  refine PX.G [⟨4, [], (.ptr 1 0)⟩, ⟨6, [], (.ptr 2 0)⟩, ⟨8, [], (.ptr 3 0)⟩] [(1, .box 38 [(.sc (.int .i64 b.id)), (.sc (.int .i64 b.ig)), (.sc (.int .i64 b.hi)), (.sc (.int .i64 b.th)), (.sc (.int .i64 b.ln)), (.sc (PX.sV b.wh)), (.sc (PX.sV b.co)), (.sc (.bool b.on)), (.imm 1 (b.ad.map encI))]), (2, .box 41 [(.sc (.int .i64 c.kd)), (.sc (.int .i64 c.rc)), (.imm 1 (c.kn.map encT)), (.imm 1 (c.wo.map encI))]), (3, .box 38 [(.sc (.int .i64 0)), (.sc (.int .i64 0)), (.sc (.int .i64 0)), (.sc (.int .i64 0)), (.sc (.int .i64 0)), (.sc (PX.sV [])), (.sc (PX.sV [])), (.sc (.bool false)), (.sc (.slice none 0 0))])] 4 [] [] [.au, .au, .au, .au] [1, 3, 4, 6, 8] [1, 2, 3] hS hE trivial fun a w hS => ?_
  refine wp_seq_k fun K1 hK1 => ?_
  refine PX.G [⟨19, [], (.sc (.bool ((b.th != (-1)) && (b.th != t))))⟩] [] 4 [] [(3, (b.th != (-1)))] [.au, .au, .au, .au, .au, .au, .au, .au, .pk] [3, 4, 6, 8, 19] [1, 2, 3] hS hE trivial fun a w hS => ?_
  refine PX.cond_s ((b.th != (-1)) && (b.th != t)) hS (by kernel_rfl) (fun h2 => ?_) (fun h2 => ?_)
  · skip
    refine PX.G [⟨9, [], (.sc (.bool false))⟩] [(3, .box 38 [(.sc (.int .i64 b.id)), (.sc (.int .i64 b.ig)), (.sc (.int .i64 b.hi)), (.sc (.int .i64 b.th)), (.sc (.int .i64 b.ln)), (.sc (PX.sV b.wh)), (.sc (PX.sV b.co)), (.sc (.bool b.on)), (.imm 1 (b.ad.map encI))])] 4 [] [] [.au, .au, .au] [8, 9] [3] hS hE trivial fun a w hS => ?_
    refine wp_ret ?_
    try simp only [Exit.then, Exit.inBlock, Nat.reduceEqDiff, ↓reduceIte]
    rw [show (.tup [.agg (encK (hitD b t c f).1), .sc (.bool (hitD b t c f).2)]) = ((.tup [(.agg [(.sc (.int .i64 b.id)), (.sc (.int .i64 b.ig)), (.sc (.int .i64 b.hi)), (.sc (.int .i64 b.th)), (.sc (.int .i64 b.ln)), (.sc (PX.sV b.wh)), (.sc (PX.sV b.co)), (.sc (.bool b.on)), (.imm 1 (b.ad.map encI))]), (.sc (.bool false))]) : PX.PV) from by rw [← hitR_eq]; unfold hitR; rw [h2]; rfl]
    exact PX.ret_s hS hE (by kernel_rfl) (by kernel_rfl) (by kernel_rfl) (.inl rfl)
  · skip
    refine wp_skip ?_
    refine hK1 _ _ ?_
    refine PX.G [⟨10, [], (.sc (.bool ((!(b.co == ([] : List UInt8))) && (f != 0))))⟩] [] 4 [.q (PX.BinIs Tryz.prog .neq 9 (.tmp 22) (.const (.string ⟨#[]⟩)) (PX.sV b.co) (PX.sV []) (.bool (!(b.co == ([] : List UInt8)))))] [(3, (!(b.co == ([] : List UInt8))))] [.au, .au, .bs (.bool (!(b.co == ([] : List UInt8)))), .au, .au, .au, .pk, .au] [4, 6, 8, 10] [1, 2, 3] hS hE ⟨PX.str_ne _ _, trivial⟩ fun a w hS => ?_
    refine wp_seq_k fun K3 hK3 => ?_
    refine PX.G [⟨64, [], (.sc (.bool (((((((!(b.co == ([] : List UInt8))) && (!((!(b.co == ([] : List UInt8))) && (f != 0)))) && (c.kd == 1)) && (((c.wo.length : Nat) : Int) == 1)) && (((c.kn.length : Nat) : Int) == 1)) && (c.kn.headD false)) && ((c.wo.headD 0) == 0))))⟩] [] 4 [.q (PX.BinIs Tryz.prog .neq 9 (.tmp 29) (.const (.string ⟨#[]⟩)) (PX.sV b.co) (PX.sV []) (.bool (!(b.co == ([] : List UInt8))))), .q (SX.pv [(3, (!(b.co == ([] : List UInt8)))), (7, ((!(b.co == ([] : List UInt8))) && (!((!(b.co == ([] : List UInt8))) && (f != 0))))), (12, (((!(b.co == ([] : List UInt8))) && (!((!(b.co == ([] : List UInt8))) && (f != 0)))) && (c.kd == 1))), (18, ((((!(b.co == ([] : List UInt8))) && (!((!(b.co == ([] : List UInt8))) && (f != 0)))) && (c.kd == 1)) && (((c.wo.length : Nat) : Int) == 1))), (24, (((((!(b.co == ([] : List UInt8))) && (!((!(b.co == ([] : List UInt8))) && (f != 0)))) && (c.kd == 1)) && (((c.wo.length : Nat) : Int) == 1)) && (((c.kn.length : Nat) : Int) == 1))), (30, ((((((!(b.co == ([] : List UInt8))) && (!((!(b.co == ([] : List UInt8))) && (f != 0)))) && (c.kd == 1)) && (((c.wo.length : Nat) : Int) == 1)) && (((c.kn.length : Nat) : Int) == 1)) && (c.kn.headD false)))] [(12, true)] = true → PX.AllOb [.q ((.sc (.int .i64 (((c.wo.map encI).length : Nat) : Int)) : PX.PV) = (.sc (.int .i64 ((c.wo.length : Nat) : Int))))]), .q (SX.pv [(3, (!(b.co == ([] : List UInt8)))), (7, ((!(b.co == ([] : List UInt8))) && (!((!(b.co == ([] : List UInt8))) && (f != 0))))), (12, (((!(b.co == ([] : List UInt8))) && (!((!(b.co == ([] : List UInt8))) && (f != 0)))) && (c.kd == 1))), (18, ((((!(b.co == ([] : List UInt8))) && (!((!(b.co == ([] : List UInt8))) && (f != 0)))) && (c.kd == 1)) && (((c.wo.length : Nat) : Int) == 1))), (24, (((((!(b.co == ([] : List UInt8))) && (!((!(b.co == ([] : List UInt8))) && (f != 0)))) && (c.kd == 1)) && (((c.wo.length : Nat) : Int) == 1)) && (((c.kn.length : Nat) : Int) == 1))), (30, ((((((!(b.co == ([] : List UInt8))) && (!((!(b.co == ([] : List UInt8))) && (f != 0)))) && (c.kd == 1)) && (((c.wo.length : Nat) : Int) == 1)) && (((c.kn.length : Nat) : Int) == 1)) && (c.kn.headD false)))] [(18, true)] = true → PX.AllOb [.q ((.sc (.int .i64 (((c.kn.map encT).length : Nat) : Int)) : PX.PV) = (.sc (.int .i64 ((c.kn.length : Nat) : Int))))]), .q (SX.pv [(3, (!(b.co == ([] : List UInt8)))), (7, ((!(b.co == ([] : List UInt8))) && (!((!(b.co == ([] : List UInt8))) && (f != 0))))), (12, (((!(b.co == ([] : List UInt8))) && (!((!(b.co == ([] : List UInt8))) && (f != 0)))) && (c.kd == 1))), (18, ((((!(b.co == ([] : List UInt8))) && (!((!(b.co == ([] : List UInt8))) && (f != 0)))) && (c.kd == 1)) && (((c.wo.length : Nat) : Int) == 1))), (24, (((((!(b.co == ([] : List UInt8))) && (!((!(b.co == ([] : List UInt8))) && (f != 0)))) && (c.kd == 1)) && (((c.wo.length : Nat) : Int) == 1)) && (((c.kn.length : Nat) : Int) == 1))), (30, ((((((!(b.co == ([] : List UInt8))) && (!((!(b.co == ([] : List UInt8))) && (f != 0)))) && (c.kd == 1)) && (((c.wo.length : Nat) : Int) == 1)) && (((c.kn.length : Nat) : Int) == 1)) && (c.kn.headD false)))] [(24, true)] = true → PX.AllOb [.q (0 = ((0 : Nat) : Int)), .q ((c.kn.map encT)[0]? = some (encT (c.kn.headD false)))]), .q (SX.pv [(3, (!(b.co == ([] : List UInt8)))), (7, ((!(b.co == ([] : List UInt8))) && (!((!(b.co == ([] : List UInt8))) && (f != 0))))), (12, (((!(b.co == ([] : List UInt8))) && (!((!(b.co == ([] : List UInt8))) && (f != 0)))) && (c.kd == 1))), (18, ((((!(b.co == ([] : List UInt8))) && (!((!(b.co == ([] : List UInt8))) && (f != 0)))) && (c.kd == 1)) && (((c.wo.length : Nat) : Int) == 1))), (24, (((((!(b.co == ([] : List UInt8))) && (!((!(b.co == ([] : List UInt8))) && (f != 0)))) && (c.kd == 1)) && (((c.wo.length : Nat) : Int) == 1)) && (((c.kn.length : Nat) : Int) == 1))), (30, ((((((!(b.co == ([] : List UInt8))) && (!((!(b.co == ([] : List UInt8))) && (f != 0)))) && (c.kd == 1)) && (((c.wo.length : Nat) : Int) == 1)) && (((c.kn.length : Nat) : Int) == 1)) && (c.kn.headD false)))] [(30, true)] = true → PX.AllOb [.q (0 = ((0 : Nat) : Int)), .q ((c.wo.map encI)[0]? = some (encI (c.wo.headD 0)))])] [(3, (!(b.co == ([] : List UInt8)))), (7, ((!(b.co == ([] : List UInt8))) && (!((!(b.co == ([] : List UInt8))) && (f != 0))))), (12, (((!(b.co == ([] : List UInt8))) && (!((!(b.co == ([] : List UInt8))) && (f != 0)))) && (c.kd == 1))), (18, ((((!(b.co == ([] : List UInt8))) && (!((!(b.co == ([] : List UInt8))) && (f != 0)))) && (c.kd == 1)) && (((c.wo.length : Nat) : Int) == 1))), (24, (((((!(b.co == ([] : List UInt8))) && (!((!(b.co == ([] : List UInt8))) && (f != 0)))) && (c.kd == 1)) && (((c.wo.length : Nat) : Int) == 1)) && (((c.kn.length : Nat) : Int) == 1))), (30, ((((((!(b.co == ([] : List UInt8))) && (!((!(b.co == ([] : List UInt8))) && (f != 0)))) && (c.kd == 1)) && (((c.wo.length : Nat) : Int) == 1)) && (((c.kn.length : Nat) : Int) == 1)) && (c.kn.headD false)))] [.au, .au, .bs (.bool (!(b.co == ([] : List UInt8)))), .au, .au, .au, .pk, .au, .au, .au, .au, .pk, .au, .au, .au, .nm (.sc (.int .i64 ((c.wo.length : Nat) : Int))), .au, .pk, .au, .au, .au, .nm (.sc (.int .i64 ((c.kn.length : Nat) : Int))), .au, .pk, .au, .au, .au, .ix 0 (encT (c.kn.headD false)), .au, .pk, .au, .au, .au, .ix 0 (encI (c.wo.headD 0)), .au, .au, .pk] [4, 8, 10, 64] [1, 3] hS hE ⟨PX.str_ne _ _, fun hg => ⟨PX.nm_len (by simp), trivial⟩, fun hg => ⟨PX.nm_len (by simp), trivial⟩, fun hg => ⟨by omega, PX.map_get (by simp [SX.pv, SX.kv] at hg; exact head_at (by simp [hg])), trivial⟩, fun hg => ⟨by omega, PX.map_get (by simp [SX.pv, SX.kv] at hg; exact head_at (by simp [hg])), trivial⟩, trivial⟩ fun a w hS => ?_
    refine PX.cond_s (((((((!(b.co == ([] : List UInt8))) && (!((!(b.co == ([] : List UInt8))) && (f != 0)))) && (c.kd == 1)) && (((c.wo.length : Nat) : Int) == 1)) && (((c.kn.length : Nat) : Int) == 1)) && (c.kn.headD false)) && ((c.wo.headD 0) == 0)) hS (by kernel_rfl) (fun h4 => ?_) (fun h4 => ?_)
    · skip
      refine PX.G [⟨9, [], (.sc (.bool false))⟩] [(3, .box 38 [(.sc (.int .i64 b.id)), (.sc (.int .i64 b.ig)), (.sc (.int .i64 b.hi)), (.sc (.int .i64 b.th)), (.sc (.int .i64 b.ln)), (.sc (PX.sV b.wh)), (.sc (PX.sV b.co)), (.sc (.bool b.on)), (.imm 1 (b.ad.map encI))])] 4 [] [] [.au, .au, .au] [8, 9] [3] hS hE trivial fun a w hS => ?_
      refine wp_ret ?_
      try simp only [Exit.then, Exit.inBlock, Nat.reduceEqDiff, ↓reduceIte]
      rw [show (.tup [.agg (encK (hitD b t c f).1), .sc (.bool (hitD b t c f).2)]) = ((.tup [(.agg [(.sc (.int .i64 b.id)), (.sc (.int .i64 b.ig)), (.sc (.int .i64 b.hi)), (.sc (.int .i64 b.th)), (.sc (.int .i64 b.ln)), (.sc (PX.sV b.wh)), (.sc (PX.sV b.co)), (.sc (.bool b.on)), (.imm 1 (b.ad.map encI))]), (.sc (.bool false))]) : PX.PV) from by rw [← hitR_eq]; unfold hitR; rw [h2, h4]; rfl]
      exact PX.ret_s hS hE (by kernel_rfl) (by kernel_rfl) (by kernel_rfl) (.inl rfl)
    · skip
      refine wp_skip ?_
      refine hK3 _ _ ?_
      refine PX.G [] [(1, .box 38 [(.sc (.int .i64 b.id)), (.sc (.int .i64 b.ig)), (.sc (.int .i64 (IntKind.i64.wrap (b.hi + 1)))), (.sc (.int .i64 b.th)), (.sc (.int .i64 b.ln)), (.sc (PX.sV b.wh)), (.sc (PX.sV b.co)), (.sc (.bool b.on)), (.imm 1 (b.ad.map encI))])] 4 [] [] [.au, .au, .au, .au, .au] [4, 8, 10] [1, 3] hS hE trivial fun a w hS => ?_
      refine wp_seq_k fun K5 hK5 => ?_
      refine PX.G [⟨76, [], (.sc (.bool ((!((!(b.co == ([] : List UInt8))) && (f != 0))) && decide (0 < b.ig))))⟩] [] 4 [] [(2, (!((!(b.co == ([] : List UInt8))) && (f != 0))))] [.au, .au, .au, .au, .au, .au, .pk] [4, 8, 76] [1, 3] hS hE trivial fun a w hS => ?_
      refine PX.cond_s ((!((!(b.co == ([] : List UInt8))) && (f != 0))) && decide (0 < b.ig)) hS (by kernel_rfl) (fun h6 => ?_) (fun h6 => ?_)
      · skip
        refine PX.G [] [(1, .box 38 [(.sc (.int .i64 b.id)), (.sc (.int .i64 (IntKind.i64.wrap (b.ig - 1)))), (.sc (.int .i64 (IntKind.i64.wrap (b.hi + 1)))), (.sc (.int .i64 b.th)), (.sc (.int .i64 b.ln)), (.sc (PX.sV b.wh)), (.sc (PX.sV b.co)), (.sc (.bool b.on)), (.imm 1 (b.ad.map encI))])] 4 [] [] [.au, .au, .au, .au, .au] [4, 8] [1, 3] hS hE trivial fun a w hS => ?_
        refine PX.G [⟨9, [], (.sc (.bool false))⟩] [(3, .box 38 [(.sc (.int .i64 b.id)), (.sc (.int .i64 (IntKind.i64.wrap (b.ig - 1)))), (.sc (.int .i64 (IntKind.i64.wrap (b.hi + 1)))), (.sc (.int .i64 b.th)), (.sc (.int .i64 b.ln)), (.sc (PX.sV b.wh)), (.sc (PX.sV b.co)), (.sc (.bool b.on)), (.imm 1 (b.ad.map encI))])] 4 [] [] [.au, .au, .au] [8, 9] [3] hS hE trivial fun a w hS => ?_
        refine wp_ret ?_
        try simp only [Exit.then, Exit.inBlock, Nat.reduceEqDiff, ↓reduceIte]
        rw [show (.tup [.agg (encK (hitD b t c f).1), .sc (.bool (hitD b t c f).2)]) = ((.tup [(.agg [(.sc (.int .i64 b.id)), (.sc (.int .i64 (IntKind.i64.wrap (b.ig - 1)))), (.sc (.int .i64 (IntKind.i64.wrap (b.hi + 1)))), (.sc (.int .i64 b.th)), (.sc (.int .i64 b.ln)), (.sc (PX.sV b.wh)), (.sc (PX.sV b.co)), (.sc (.bool b.on)), (.imm 1 (b.ad.map encI))]), (.sc (.bool false))]) : PX.PV) from by rw [← hitR_eq]; unfold hitR; rw [h2, h4, h6]; rfl]
        exact PX.ret_s hS hE (by kernel_rfl) (by kernel_rfl) (by kernel_rfl) (.inl rfl)
      · skip
        refine wp_skip ?_
        refine hK5 _ _ ?_
        refine PX.G [⟨9, [], (.sc (.bool true))⟩] [(3, .box 38 [(.sc (.int .i64 b.id)), (.sc (.int .i64 b.ig)), (.sc (.int .i64 (IntKind.i64.wrap (b.hi + 1)))), (.sc (.int .i64 b.th)), (.sc (.int .i64 b.ln)), (.sc (PX.sV b.wh)), (.sc (PX.sV b.co)), (.sc (.bool b.on)), (.imm 1 (b.ad.map encI))])] 4 [] [] [.au, .au, .au] [8, 9] [3] hS hE trivial fun a w hS => ?_
        refine wp_ret ?_
        try simp only [Exit.then, Exit.inBlock, Nat.reduceEqDiff, ↓reduceIte]
        rw [show (.tup [.agg (encK (hitD b t c f).1), .sc (.bool (hitD b t c f).2)]) = ((.tup [(.agg [(.sc (.int .i64 b.id)), (.sc (.int .i64 b.ig)), (.sc (.int .i64 (IntKind.i64.wrap (b.hi + 1)))), (.sc (.int .i64 b.th)), (.sc (.int .i64 b.ln)), (.sc (PX.sV b.wh)), (.sc (PX.sV b.co)), (.sc (.bool b.on)), (.imm 1 (b.ad.map encI))]), (.sc (.bool true))]) : PX.PV) from by rw [← hitR_eq]; unfold hitR; rw [h2, h4, h6]; rfl]
        exact PX.ret_s hS hE (by kernel_rfl) (by kernel_rfl) (by kernel_rfl) (.inl rfl)

set_option maxHeartbeats 400000 in
theorem con_sameK (b : BrkD) (hl : b.ad.length ≤ 1000000) : PX.Con Tryz.prog 20 [(.agg [(.sc (.int .i64 b.id)), (.sc (.int .i64 b.ig)), (.sc (.int .i64 b.hi)), (.sc (.int .i64 b.th)), (.sc (.int .i64 b.ln)), (.sc (PX.sV b.wh)), (.sc (PX.sV b.co)), (.sc (.bool b.on)), (.imm 1 (b.ad.map encI))]), (.agg [(.sc (.int .i64 b.id)), (.sc (.int .i64 b.ig)), (.sc (.int .i64 b.hi)), (.sc (.int .i64 b.th)), (.sc (.int .i64 b.ln)), (.sc (PX.sV b.wh)), (.sc (PX.sV b.co)), (.sc (.bool b.on)), (.imm 1 (b.ad.map encI))])] [] 1 100000 (.sc (.bool true)) [] := by
  refine PX.con_intro [(.agg [(.sc (.int .i64 b.id)), (.sc (.int .i64 b.ig)), (.sc (.int .i64 b.hi)), (.sc (.int .i64 b.th)), (.sc (.int .i64 b.ln)), (.sc (PX.sV b.wh)), (.sc (PX.sV b.co)), (.sc (.bool b.on)), (.imm 1 (b.ad.map encI))]), (.agg [(.sc (.int .i64 b.id)), (.sc (.int .i64 b.ig)), (.sc (.int .i64 b.hi)), (.sc (.int .i64 b.th)), (.sc (.int .i64 b.ln)), (.sc (PX.sV b.wh)), (.sc (PX.sV b.co)), (.sc (.bool b.on)), (.imm 1 (b.ad.map encI))])] 85 Tryz.func20 rfl rfl (by kernel_rfl) (by kernel_rfl) ?_
  intro E a hE hS
  generalize E.w0 = w at hS ⊢
  have mix := mixed
  refine PX.G [⟨2, [], (.ptr 1 0)⟩, ⟨3, [], (.ptr 2 0)⟩] [(1, .box 38 [(.sc (.int .i64 b.id)), (.sc (.int .i64 b.ig)), (.sc (.int .i64 b.hi)), (.sc (.int .i64 b.th)), (.sc (.int .i64 b.ln)), (.sc (PX.sV b.wh)), (.sc (PX.sV b.co)), (.sc (.bool b.on)), (.imm 1 (b.ad.map encI))]), (2, .box 38 [(.sc (.int .i64 b.id)), (.sc (.int .i64 b.ig)), (.sc (.int .i64 b.hi)), (.sc (.int .i64 b.th)), (.sc (.int .i64 b.ln)), (.sc (PX.sV b.wh)), (.sc (PX.sV b.co)), (.sc (.bool b.on)), (.imm 1 (b.ad.map encI))])] 3 [] [] [.au, .au, .au] [2, 3] [1, 2] hS hE trivial fun a w hS => ?_
  refine wp_seq_k fun K1 hK1 => ?_
  refine PX.G [⟨12, [], (.sc (.bool (((b.ad.length : Nat) : Int) != ((b.ad.length : Nat) : Int))))⟩] [] 3 [.q ((.sc (.int .i64 (((b.ad.map encI).length : Nat) : Int)) : PX.PV) = (.sc (.int .i64 ((b.ad.length : Nat) : Int)))), .q ((.sc (.int .i64 (((b.ad.map encI).length : Nat) : Int)) : PX.PV) = (.sc (.int .i64 ((b.ad.length : Nat) : Int))))] [] [.au, .au, .nm (.sc (.int .i64 ((b.ad.length : Nat) : Int))), .au, .au, .nm (.sc (.int .i64 ((b.ad.length : Nat) : Int))), .au] [2, 3, 12] [1, 2] hS hE ⟨PX.nm_len (by simp), PX.nm_len (by simp), trivial⟩ fun a w hS => ?_
  refine PX.cond_s (((b.ad.length : Nat) : Int) != ((b.ad.length : Nat) : Int)) hS (by kernel_rfl) (fun h2 => ?_) (fun h2 => ?_)
  · skip
    simp at h2
  · skip
    refine wp_skip ?_
    refine hK1 _ _ ?_
    refine wp_seq_k fun K3 hK3 => ?_
    refine PX.G [⟨5, [], (.sc (.int .i64 0))⟩] [] 3 [] [] [.au] [2, 3, 5] [1, 2] hS hE trivial fun a w hS => ?_
    refine wp_block ?_
    refine wp_loop_ghost (fun m4 a' w' => ∃ k : Nat, m4 = b.ad.length - k ∧ k ≤ b.ad.length ∧ True ∧ PX.Sat E 85 [⟨2, [], (.ptr 1 0)⟩, ⟨3, [], (.ptr 2 0)⟩, ⟨5, [], (.sc (.int .i64 ((k : Nat) : Int)))⟩] [(1, .box 38 [(.sc (.int .i64 b.id)), (.sc (.int .i64 b.ig)), (.sc (.int .i64 b.hi)), (.sc (.int .i64 b.th)), (.sc (.int .i64 b.ln)), (.sc (PX.sV b.wh)), (.sc (PX.sV b.co)), (.sc (.bool b.on)), (.imm 1 (b.ad.map encI))]), (2, .box 38 [(.sc (.int .i64 b.id)), (.sc (.int .i64 b.ig)), (.sc (.int .i64 b.hi)), (.sc (.int .i64 b.th)), (.sc (.int .i64 b.ln)), (.sc (PX.sV b.wh)), (.sc (PX.sV b.co)), (.sc (.bool b.on)), (.imm 1 (b.ad.map encI))])] 3 a' w') (b.ad.length - 0) ⟨0, rfl, Nat.zero_le _, trivial, (PX.canon [] _ _ 3 hS hE (by kernel_rfl) (by kernel_rfl) (by kernel_rfl))⟩ ?_
    clear hS; rintro m4 a w ⟨k, hm4, hlek, hIk, hS⟩
    refine wp_seq_k fun K5 hK5 => ?_
    refine PX.G [⟨17, [], (.sc (.bool (decide (((k : Nat) : Int) < ((b.ad.length : Nat) : Int)))))⟩] [] 3 [.q ((.sc (.int .i64 (((b.ad.map encI).length : Nat) : Int)) : PX.PV) = (.sc (.int .i64 ((b.ad.length : Nat) : Int))))] [] [.au, .au, .au, .nm (.sc (.int .i64 ((b.ad.length : Nat) : Int))), .au] [2, 3, 5, 17] [1, 2] hS hE ⟨PX.nm_len (by simp), trivial⟩ fun a w hS => ?_
    refine PX.cond_s (decide (((k : Nat) : Int) < ((b.ad.length : Nat) : Int))) hS (by kernel_rfl) (fun h6 => ?_) (fun h6 => ?_)
    · skip
      refine wp_skip ?_
      refine hK5 _ _ ?_
      refine wp_seq_k fun K7 hK7 => ?_
      refine wp_block ?_
      have hlt : k < b.ad.length := by simpa using h6
      obtain ⟨y, hy⟩ := get_of_lt hlt
      refine PX.D [⟨30, [], (.sc (.bool (y != y)))⟩] [] 3 [.q (((k : Nat) : Int) = ((k : Nat) : Int)), .q ((b.ad.map encI)[k]? = some (encI y)), .q (((k : Nat) : Int) = ((k : Nat) : Int)), .q ((b.ad.map encI)[k]? = some (encI y))] [] [.au, .au, .au, .ix k (encI y), .au, .au, .au, .au, .ix k (encI y), .au, .au] [2, 3, 5, 30] [1, 2] hS mixed hE ⟨rfl, PX.map_get hy, rfl, PX.map_get hy, trivial⟩ fun a w hS => ?_
      refine PX.cond_s (y != y) hS (by kernel_rfl) (fun h8 => ?_) (fun h8 => ?_)
      · skip
        simp at h8
      · skip
        refine wp_skip ?_
        refine hK7 _ _ ?_
        refine PX.G0 [⟨5, [], (.sc (.int .i64 ((k + 1 : Nat) : Int)))⟩] [] 3 [.q ((.sc (.int .i64 (IntKind.i64.wrap (((k : Nat) : Int) + 1))) : PX.PV) = (.sc (.int .i64 ((k + 1 : Nat) : Int))))] [] [.au, .nm (.sc (.int .i64 ((k + 1 : Nat) : Int))), .au] [2, 3, 5] [1, 2] hS hE ⟨PX.nm_int (by rw [IntWalk.i64_in _ (by omega)]; omega), trivial⟩ fun a w hS => ?_
        exact ⟨b.ad.length - (k + 1), by omega, k + 1, rfl, by omega, trivial, (PX.canon [] _ _ 3 hS hE (by kernel_rfl) (by kernel_rfl) (by kernel_rfl))⟩
    · skip
      refine wp_exit ?_
      refine hK3 _ _ ?_
      refine PX.G [⟨4, [], (.sc (.bool ((((((((b.id == b.id) && (b.ig == b.ig)) && (b.hi == b.hi)) && (b.th == b.th)) && (b.ln == b.ln)) && (b.wh == b.wh)) && (b.co == b.co)) && (b.on == b.on))))⟩] [] 3 [.q (SX.pv [(5, (b.id == b.id)), (12, ((b.id == b.id) && (b.ig == b.ig))), (19, (((b.id == b.id) && (b.ig == b.ig)) && (b.hi == b.hi))), (26, ((((b.id == b.id) && (b.ig == b.ig)) && (b.hi == b.hi)) && (b.th == b.th))), (33, (((((b.id == b.id) && (b.ig == b.ig)) && (b.hi == b.hi)) && (b.th == b.th)) && (b.ln == b.ln))), (40, ((((((b.id == b.id) && (b.ig == b.ig)) && (b.hi == b.hi)) && (b.th == b.th)) && (b.ln == b.ln)) && (b.wh == b.wh))), (47, (((((((b.id == b.id) && (b.ig == b.ig)) && (b.hi == b.hi)) && (b.th == b.th)) && (b.ln == b.ln)) && (b.wh == b.wh)) && (b.co == b.co)))] [(33, true)] = true → PX.AllOb [.q (PX.BinIs Tryz.prog .eql 9 (.tmp 66) (.tmp 68) (PX.sV b.wh) (PX.sV b.wh) (.bool (b.wh == b.wh)))]), .q (SX.pv [(5, (b.id == b.id)), (12, ((b.id == b.id) && (b.ig == b.ig))), (19, (((b.id == b.id) && (b.ig == b.ig)) && (b.hi == b.hi))), (26, ((((b.id == b.id) && (b.ig == b.ig)) && (b.hi == b.hi)) && (b.th == b.th))), (33, (((((b.id == b.id) && (b.ig == b.ig)) && (b.hi == b.hi)) && (b.th == b.th)) && (b.ln == b.ln))), (40, ((((((b.id == b.id) && (b.ig == b.ig)) && (b.hi == b.hi)) && (b.th == b.th)) && (b.ln == b.ln)) && (b.wh == b.wh))), (47, (((((((b.id == b.id) && (b.ig == b.ig)) && (b.hi == b.hi)) && (b.th == b.th)) && (b.ln == b.ln)) && (b.wh == b.wh)) && (b.co == b.co)))] [(40, true)] = true → PX.AllOb [.q (PX.BinIs Tryz.prog .eql 9 (.tmp 73) (.tmp 75) (PX.sV b.co) (PX.sV b.co) (.bool (b.co == b.co)))])] [(5, (b.id == b.id)), (12, ((b.id == b.id) && (b.ig == b.ig))), (19, (((b.id == b.id) && (b.ig == b.ig)) && (b.hi == b.hi))), (26, ((((b.id == b.id) && (b.ig == b.ig)) && (b.hi == b.hi)) && (b.th == b.th))), (33, (((((b.id == b.id) && (b.ig == b.ig)) && (b.hi == b.hi)) && (b.th == b.th)) && (b.ln == b.ln))), (40, ((((((b.id == b.id) && (b.ig == b.ig)) && (b.hi == b.hi)) && (b.th == b.th)) && (b.ln == b.ln)) && (b.wh == b.wh))), (47, (((((((b.id == b.id) && (b.ig == b.ig)) && (b.hi == b.hi)) && (b.th == b.th)) && (b.ln == b.ln)) && (b.wh == b.wh)) && (b.co == b.co)))] [.au, .au, .au, .au, .au, .au, .au, .au, .au, .au, .au, .pk, .au, .au, .au, .au, .au, .au, .pk, .au, .au, .au, .au, .au, .au, .pk, .au, .au, .au, .au, .au, .au, .pk, .au, .au, .au, .au, .au, .bs (.bool (b.wh == b.wh)), .pk, .au, .au, .au, .au, .au, .bs (.bool (b.co == b.co)), .pk, .au, .au, .au, .au, .au, .au, .pk, .au] [4] [] hS hE ⟨fun hg => ⟨PX.str_eq _ _, trivial⟩, fun hg => ⟨PX.str_eq _ _, trivial⟩, trivial⟩ fun a w hS => ?_
      refine wp_ret ?_
      try simp only [Exit.then, Exit.inBlock, Nat.reduceEqDiff, ↓reduceIte]
      rw [show (.sc (.bool true)) = ((.sc (.bool ((((((((b.id == b.id) && (b.ig == b.ig)) && (b.hi == b.hi)) && (b.th == b.th)) && (b.ln == b.ln)) && (b.wh == b.wh)) && (b.co == b.co)) && (b.on == b.on)))) : PX.PV) from by simp]
      exact PX.ret_s hS hE (by kernel_rfl) (by kernel_rfl) (by kernel_rfl) (.inl rfl)

def modD (n k : Int) : Int := if Int.tmod n k < 0 then IntKind.i64.wrap (Int.tmod n k + k) else Int.tmod n k
theorem modD_range {n k : Int} (hk : 0 < k) (hk2 : k ≤ 1000000) : 0 ≤ modD n k ∧ modD n k < k := by
  have h1 : Int.tmod n k < k := Int.tmod_lt_of_pos n hk
  have h2 : -k < Int.tmod n k := by
    have := Int.tmod_lt_of_pos (-n) hk
    rw [Int.neg_tmod] at this; omega
  unfold modD
  split
  · rw [IntWalk.i64_in _ (by omega)]; omega
  · omega

set_option maxHeartbeats 400000 in
theorem con_mod2 (n : Int) : PX.Con Tryz.prog 12 [(.sc (.int .i64 n)), (.sc (.int .i64 2))] [] 1 100000 (.sc (.int .i64 (modD n 2))) [] := by
  refine PX.con_intro [(.sc (.int .i64 n)), (.sc (.int .i64 2))] 14 Tryz.func12 rfl rfl (by kernel_rfl) (by kernel_rfl) ?_
  intro E a hE hS
  generalize E.w0 = w at hS ⊢
  have mix := mixed
  refine PX.G [] [] 1 [] [] [.au] [0, 1] [] hS hE trivial fun a w hS => ?_
  refine PX.G [⟨0, [], (.sc (.int .i64 (Int.tmod n 2)))⟩] [] 1 [] [] [.au, .au, .au, .au] [0, 1] [] hS hE trivial fun a w hS => ?_
  refine wp_seq_k fun K1 hK1 => ?_
  refine PX.G [⟨9, [], (.sc (.bool (decide ((Int.tmod n 2) < 0))))⟩] [] 1 [] [] [.au, .au] [0, 1, 9] [] hS hE trivial fun a w hS => ?_
  refine PX.cond_s (decide ((Int.tmod n 2) < 0)) hS (by kernel_rfl) (fun h2 => ?_) (fun h2 => ?_)
  · skip
    refine PX.G0 [⟨0, [], (.sc (.int .i64 (IntKind.i64.wrap ((Int.tmod n 2) + 2))))⟩] [] 1 [] [] [.au, .au, .au, .au] [0] [] hS hE trivial fun a w hS => ?_
    refine hK1 _ _ ?_
    refine PX.G [⟨4, [], (.sc (.int .i64 (IntKind.i64.wrap ((Int.tmod n 2) + 2))))⟩] [] 1 [] [] [.au, .au] [4] [] hS hE trivial fun a w hS => ?_
    refine wp_ret ?_
    try simp only [Exit.then, Exit.inBlock, Nat.reduceEqDiff, ↓reduceIte]
    rw [show (.sc (.int .i64 (modD n 2))) = ((.sc (.int .i64 (IntKind.i64.wrap ((Int.tmod n 2) + 2)))) : PX.PV) from by unfold modD; rw [if_pos (of_decide_eq_true h2)]]
    exact PX.ret_s hS hE (by kernel_rfl) (by kernel_rfl) (by kernel_rfl) (.inl rfl)
  · skip
    refine wp_skip ?_
    refine hK1 _ _ ?_
    refine PX.G [⟨4, [], (.sc (.int .i64 (Int.tmod n 2)))⟩] [] 1 [] [] [.au, .au] [4] [] hS hE trivial fun a w hS => ?_
    refine wp_ret ?_
    try simp only [Exit.then, Exit.inBlock, Nat.reduceEqDiff, ↓reduceIte]
    rw [show (.sc (.int .i64 (modD n 2))) = ((.sc (.int .i64 (Int.tmod n 2))) : PX.PV) from by unfold modD; rw [if_neg (of_decide_eq_false h2)]]
    exact PX.ret_s hS hE (by kernel_rfl) (by kernel_rfl) (by kernel_rfl) (.inl rfl)

set_option maxHeartbeats 400000 in
theorem con_mod3 (n : Int) : PX.Con Tryz.prog 12 [(.sc (.int .i64 n)), (.sc (.int .i64 3))] [] 1 100000 (.sc (.int .i64 (modD n 3))) [] := by
  refine PX.con_intro [(.sc (.int .i64 n)), (.sc (.int .i64 3))] 14 Tryz.func12 rfl rfl (by kernel_rfl) (by kernel_rfl) ?_
  intro E a hE hS
  generalize E.w0 = w at hS ⊢
  have mix := mixed
  refine PX.G [] [] 1 [] [] [.au] [0, 1] [] hS hE trivial fun a w hS => ?_
  refine PX.G [⟨0, [], (.sc (.int .i64 (Int.tmod n 3)))⟩] [] 1 [] [] [.au, .au, .au, .au] [0, 1] [] hS hE trivial fun a w hS => ?_
  refine wp_seq_k fun K1 hK1 => ?_
  refine PX.G [⟨9, [], (.sc (.bool (decide ((Int.tmod n 3) < 0))))⟩] [] 1 [] [] [.au, .au] [0, 1, 9] [] hS hE trivial fun a w hS => ?_
  refine PX.cond_s (decide ((Int.tmod n 3) < 0)) hS (by kernel_rfl) (fun h2 => ?_) (fun h2 => ?_)
  · skip
    refine PX.G0 [⟨0, [], (.sc (.int .i64 (IntKind.i64.wrap ((Int.tmod n 3) + 3))))⟩] [] 1 [] [] [.au, .au, .au, .au] [0] [] hS hE trivial fun a w hS => ?_
    refine hK1 _ _ ?_
    refine PX.G [⟨4, [], (.sc (.int .i64 (IntKind.i64.wrap ((Int.tmod n 3) + 3))))⟩] [] 1 [] [] [.au, .au] [4] [] hS hE trivial fun a w hS => ?_
    refine wp_ret ?_
    try simp only [Exit.then, Exit.inBlock, Nat.reduceEqDiff, ↓reduceIte]
    rw [show (.sc (.int .i64 (modD n 3))) = ((.sc (.int .i64 (IntKind.i64.wrap ((Int.tmod n 3) + 3)))) : PX.PV) from by unfold modD; rw [if_pos (of_decide_eq_true h2)]]
    exact PX.ret_s hS hE (by kernel_rfl) (by kernel_rfl) (by kernel_rfl) (.inl rfl)
  · skip
    refine wp_skip ?_
    refine hK1 _ _ ?_
    refine PX.G [⟨4, [], (.sc (.int .i64 (Int.tmod n 3)))⟩] [] 1 [] [] [.au, .au] [4] [] hS hE trivial fun a w hS => ?_
    refine wp_ret ?_
    try simp only [Exit.then, Exit.inBlock, Nat.reduceEqDiff, ↓reduceIte]
    rw [show (.sc (.int .i64 (modD n 3))) = ((.sc (.int .i64 (Int.tmod n 3))) : PX.PV) from by unfold modD; rw [if_neg (of_decide_eq_false h2)]]
    exact PX.ret_s hS hE (by kernel_rfl) (by kernel_rfl) (by kernel_rfl) (.inl rfl)

set_option maxHeartbeats 400000 in
theorem con_mod4 (n : Int) : PX.Con Tryz.prog 12 [(.sc (.int .i64 n)), (.sc (.int .i64 4))] [] 1 100000 (.sc (.int .i64 (modD n 4))) [] := by
  refine PX.con_intro [(.sc (.int .i64 n)), (.sc (.int .i64 4))] 14 Tryz.func12 rfl rfl (by kernel_rfl) (by kernel_rfl) ?_
  intro E a hE hS
  generalize E.w0 = w at hS ⊢
  have mix := mixed
  refine PX.G [] [] 1 [] [] [.au] [0, 1] [] hS hE trivial fun a w hS => ?_
  refine PX.G [⟨0, [], (.sc (.int .i64 (Int.tmod n 4)))⟩] [] 1 [] [] [.au, .au, .au, .au] [0, 1] [] hS hE trivial fun a w hS => ?_
  refine wp_seq_k fun K1 hK1 => ?_
  refine PX.G [⟨9, [], (.sc (.bool (decide ((Int.tmod n 4) < 0))))⟩] [] 1 [] [] [.au, .au] [0, 1, 9] [] hS hE trivial fun a w hS => ?_
  refine PX.cond_s (decide ((Int.tmod n 4) < 0)) hS (by kernel_rfl) (fun h2 => ?_) (fun h2 => ?_)
  · skip
    refine PX.G0 [⟨0, [], (.sc (.int .i64 (IntKind.i64.wrap ((Int.tmod n 4) + 4))))⟩] [] 1 [] [] [.au, .au, .au, .au] [0] [] hS hE trivial fun a w hS => ?_
    refine hK1 _ _ ?_
    refine PX.G [⟨4, [], (.sc (.int .i64 (IntKind.i64.wrap ((Int.tmod n 4) + 4))))⟩] [] 1 [] [] [.au, .au] [4] [] hS hE trivial fun a w hS => ?_
    refine wp_ret ?_
    try simp only [Exit.then, Exit.inBlock, Nat.reduceEqDiff, ↓reduceIte]
    rw [show (.sc (.int .i64 (modD n 4))) = ((.sc (.int .i64 (IntKind.i64.wrap ((Int.tmod n 4) + 4)))) : PX.PV) from by unfold modD; rw [if_pos (of_decide_eq_true h2)]]
    exact PX.ret_s hS hE (by kernel_rfl) (by kernel_rfl) (by kernel_rfl) (.inl rfl)
  · skip
    refine wp_skip ?_
    refine hK1 _ _ ?_
    refine PX.G [⟨4, [], (.sc (.int .i64 (Int.tmod n 4)))⟩] [] 1 [] [] [.au, .au] [4] [] hS hE trivial fun a w hS => ?_
    refine wp_ret ?_
    try simp only [Exit.then, Exit.inBlock, Nat.reduceEqDiff, ↓reduceIte]
    rw [show (.sc (.int .i64 (modD n 4))) = ((.sc (.int .i64 (Int.tmod n 4))) : PX.PV) from by unfold modD; rw [if_neg (of_decide_eq_false h2)]]
    exact PX.ret_s hS hE (by kernel_rfl) (by kernel_rfl) (by kernel_rfl) (.inl rfl)

set_option maxHeartbeats 400000 in
theorem con_mod8 (n : Int) : PX.Con Tryz.prog 12 [(.sc (.int .i64 n)), (.sc (.int .i64 8))] [] 1 100000 (.sc (.int .i64 (modD n 8))) [] := by
  refine PX.con_intro [(.sc (.int .i64 n)), (.sc (.int .i64 8))] 14 Tryz.func12 rfl rfl (by kernel_rfl) (by kernel_rfl) ?_
  intro E a hE hS
  generalize E.w0 = w at hS ⊢
  have mix := mixed
  refine PX.G [] [] 1 [] [] [.au] [0, 1] [] hS hE trivial fun a w hS => ?_
  refine PX.G [⟨0, [], (.sc (.int .i64 (Int.tmod n 8)))⟩] [] 1 [] [] [.au, .au, .au, .au] [0, 1] [] hS hE trivial fun a w hS => ?_
  refine wp_seq_k fun K1 hK1 => ?_
  refine PX.G [⟨9, [], (.sc (.bool (decide ((Int.tmod n 8) < 0))))⟩] [] 1 [] [] [.au, .au] [0, 1, 9] [] hS hE trivial fun a w hS => ?_
  refine PX.cond_s (decide ((Int.tmod n 8) < 0)) hS (by kernel_rfl) (fun h2 => ?_) (fun h2 => ?_)
  · skip
    refine PX.G0 [⟨0, [], (.sc (.int .i64 (IntKind.i64.wrap ((Int.tmod n 8) + 8))))⟩] [] 1 [] [] [.au, .au, .au, .au] [0] [] hS hE trivial fun a w hS => ?_
    refine hK1 _ _ ?_
    refine PX.G [⟨4, [], (.sc (.int .i64 (IntKind.i64.wrap ((Int.tmod n 8) + 8))))⟩] [] 1 [] [] [.au, .au] [4] [] hS hE trivial fun a w hS => ?_
    refine wp_ret ?_
    try simp only [Exit.then, Exit.inBlock, Nat.reduceEqDiff, ↓reduceIte]
    rw [show (.sc (.int .i64 (modD n 8))) = ((.sc (.int .i64 (IntKind.i64.wrap ((Int.tmod n 8) + 8)))) : PX.PV) from by unfold modD; rw [if_pos (of_decide_eq_true h2)]]
    exact PX.ret_s hS hE (by kernel_rfl) (by kernel_rfl) (by kernel_rfl) (.inl rfl)
  · skip
    refine wp_skip ?_
    refine hK1 _ _ ?_
    refine PX.G [⟨4, [], (.sc (.int .i64 (Int.tmod n 8)))⟩] [] 1 [] [] [.au, .au] [4] [] hS hE trivial fun a w hS => ?_
    refine wp_ret ?_
    try simp only [Exit.then, Exit.inBlock, Nat.reduceEqDiff, ↓reduceIte]
    rw [show (.sc (.int .i64 (modD n 8))) = ((.sc (.int .i64 (Int.tmod n 8))) : PX.PV) from by unfold modD; rw [if_neg (of_decide_eq_false h2)]]
    exact PX.ret_s hS hE (by kernel_rfl) (by kernel_rfl) (by kernel_rfl) (.inl rfl)

set_option maxHeartbeats 400000 in
theorem con_mod9 (n : Int) : PX.Con Tryz.prog 12 [(.sc (.int .i64 n)), (.sc (.int .i64 9))] [] 1 100000 (.sc (.int .i64 (modD n 9))) [] := by
  refine PX.con_intro [(.sc (.int .i64 n)), (.sc (.int .i64 9))] 14 Tryz.func12 rfl rfl (by kernel_rfl) (by kernel_rfl) ?_
  intro E a hE hS
  generalize E.w0 = w at hS ⊢
  have mix := mixed
  refine PX.G [] [] 1 [] [] [.au] [0, 1] [] hS hE trivial fun a w hS => ?_
  refine PX.G [⟨0, [], (.sc (.int .i64 (Int.tmod n 9)))⟩] [] 1 [] [] [.au, .au, .au, .au] [0, 1] [] hS hE trivial fun a w hS => ?_
  refine wp_seq_k fun K1 hK1 => ?_
  refine PX.G [⟨9, [], (.sc (.bool (decide ((Int.tmod n 9) < 0))))⟩] [] 1 [] [] [.au, .au] [0, 1, 9] [] hS hE trivial fun a w hS => ?_
  refine PX.cond_s (decide ((Int.tmod n 9) < 0)) hS (by kernel_rfl) (fun h2 => ?_) (fun h2 => ?_)
  · skip
    refine PX.G0 [⟨0, [], (.sc (.int .i64 (IntKind.i64.wrap ((Int.tmod n 9) + 9))))⟩] [] 1 [] [] [.au, .au, .au, .au] [0] [] hS hE trivial fun a w hS => ?_
    refine hK1 _ _ ?_
    refine PX.G [⟨4, [], (.sc (.int .i64 (IntKind.i64.wrap ((Int.tmod n 9) + 9))))⟩] [] 1 [] [] [.au, .au] [4] [] hS hE trivial fun a w hS => ?_
    refine wp_ret ?_
    try simp only [Exit.then, Exit.inBlock, Nat.reduceEqDiff, ↓reduceIte]
    rw [show (.sc (.int .i64 (modD n 9))) = ((.sc (.int .i64 (IntKind.i64.wrap ((Int.tmod n 9) + 9)))) : PX.PV) from by unfold modD; rw [if_pos (of_decide_eq_true h2)]]
    exact PX.ret_s hS hE (by kernel_rfl) (by kernel_rfl) (by kernel_rfl) (.inl rfl)
  · skip
    refine wp_skip ?_
    refine hK1 _ _ ?_
    refine PX.G [⟨4, [], (.sc (.int .i64 (Int.tmod n 9)))⟩] [] 1 [] [] [.au, .au] [4] [] hS hE trivial fun a w hS => ?_
    refine wp_ret ?_
    try simp only [Exit.then, Exit.inBlock, Nat.reduceEqDiff, ↓reduceIte]
    rw [show (.sc (.int .i64 (modD n 9))) = ((.sc (.int .i64 (Int.tmod n 9))) : PX.PV) from by unfold modD; rw [if_neg (of_decide_eq_false h2)]]
    exact PX.ret_s hS hE (by kernel_rfl) (by kernel_rfl) (by kernel_rfl) (.inl rfl)

set_option maxHeartbeats 400000 in
theorem con_mod20 (n : Int) : PX.Con Tryz.prog 12 [(.sc (.int .i64 n)), (.sc (.int .i64 20))] [] 1 100000 (.sc (.int .i64 (modD n 20))) [] := by
  refine PX.con_intro [(.sc (.int .i64 n)), (.sc (.int .i64 20))] 14 Tryz.func12 rfl rfl (by kernel_rfl) (by kernel_rfl) ?_
  intro E a hE hS
  generalize E.w0 = w at hS ⊢
  have mix := mixed
  refine PX.G [] [] 1 [] [] [.au] [0, 1] [] hS hE trivial fun a w hS => ?_
  refine PX.G [⟨0, [], (.sc (.int .i64 (Int.tmod n 20)))⟩] [] 1 [] [] [.au, .au, .au, .au] [0, 1] [] hS hE trivial fun a w hS => ?_
  refine wp_seq_k fun K1 hK1 => ?_
  refine PX.G [⟨9, [], (.sc (.bool (decide ((Int.tmod n 20) < 0))))⟩] [] 1 [] [] [.au, .au] [0, 1, 9] [] hS hE trivial fun a w hS => ?_
  refine PX.cond_s (decide ((Int.tmod n 20) < 0)) hS (by kernel_rfl) (fun h2 => ?_) (fun h2 => ?_)
  · skip
    refine PX.G0 [⟨0, [], (.sc (.int .i64 (IntKind.i64.wrap ((Int.tmod n 20) + 20))))⟩] [] 1 [] [] [.au, .au, .au, .au] [0] [] hS hE trivial fun a w hS => ?_
    refine hK1 _ _ ?_
    refine PX.G [⟨4, [], (.sc (.int .i64 (IntKind.i64.wrap ((Int.tmod n 20) + 20))))⟩] [] 1 [] [] [.au, .au] [4] [] hS hE trivial fun a w hS => ?_
    refine wp_ret ?_
    try simp only [Exit.then, Exit.inBlock, Nat.reduceEqDiff, ↓reduceIte]
    rw [show (.sc (.int .i64 (modD n 20))) = ((.sc (.int .i64 (IntKind.i64.wrap ((Int.tmod n 20) + 20)))) : PX.PV) from by unfold modD; rw [if_pos (of_decide_eq_true h2)]]
    exact PX.ret_s hS hE (by kernel_rfl) (by kernel_rfl) (by kernel_rfl) (.inl rfl)
  · skip
    refine wp_skip ?_
    refine hK1 _ _ ?_
    refine PX.G [⟨4, [], (.sc (.int .i64 (Int.tmod n 20)))⟩] [] 1 [] [] [.au, .au] [4] [] hS hE trivial fun a w hS => ?_
    refine wp_ret ?_
    try simp only [Exit.then, Exit.inBlock, Nat.reduceEqDiff, ↓reduceIte]
    rw [show (.sc (.int .i64 (modD n 20))) = ((.sc (.int .i64 (Int.tmod n 20))) : PX.PV) from by unfold modD; rw [if_neg (of_decide_eq_false h2)]]
    exact PX.ret_s hS hE (by kernel_rfl) (by kernel_rfl) (by kernel_rfl) (.inl rfl)

set_option maxHeartbeats 400000 in
theorem con_mod30 (n : Int) : PX.Con Tryz.prog 12 [(.sc (.int .i64 n)), (.sc (.int .i64 30))] [] 1 100000 (.sc (.int .i64 (modD n 30))) [] := by
  refine PX.con_intro [(.sc (.int .i64 n)), (.sc (.int .i64 30))] 14 Tryz.func12 rfl rfl (by kernel_rfl) (by kernel_rfl) ?_
  intro E a hE hS
  generalize E.w0 = w at hS ⊢
  have mix := mixed
  refine PX.G [] [] 1 [] [] [.au] [0, 1] [] hS hE trivial fun a w hS => ?_
  refine PX.G [⟨0, [], (.sc (.int .i64 (Int.tmod n 30)))⟩] [] 1 [] [] [.au, .au, .au, .au] [0, 1] [] hS hE trivial fun a w hS => ?_
  refine wp_seq_k fun K1 hK1 => ?_
  refine PX.G [⟨9, [], (.sc (.bool (decide ((Int.tmod n 30) < 0))))⟩] [] 1 [] [] [.au, .au] [0, 1, 9] [] hS hE trivial fun a w hS => ?_
  refine PX.cond_s (decide ((Int.tmod n 30) < 0)) hS (by kernel_rfl) (fun h2 => ?_) (fun h2 => ?_)
  · skip
    refine PX.G0 [⟨0, [], (.sc (.int .i64 (IntKind.i64.wrap ((Int.tmod n 30) + 30))))⟩] [] 1 [] [] [.au, .au, .au, .au] [0] [] hS hE trivial fun a w hS => ?_
    refine hK1 _ _ ?_
    refine PX.G [⟨4, [], (.sc (.int .i64 (IntKind.i64.wrap ((Int.tmod n 30) + 30))))⟩] [] 1 [] [] [.au, .au] [4] [] hS hE trivial fun a w hS => ?_
    refine wp_ret ?_
    try simp only [Exit.then, Exit.inBlock, Nat.reduceEqDiff, ↓reduceIte]
    rw [show (.sc (.int .i64 (modD n 30))) = ((.sc (.int .i64 (IntKind.i64.wrap ((Int.tmod n 30) + 30)))) : PX.PV) from by unfold modD; rw [if_pos (of_decide_eq_true h2)]]
    exact PX.ret_s hS hE (by kernel_rfl) (by kernel_rfl) (by kernel_rfl) (.inl rfl)
  · skip
    refine wp_skip ?_
    refine hK1 _ _ ?_
    refine PX.G [⟨4, [], (.sc (.int .i64 (Int.tmod n 30)))⟩] [] 1 [] [] [.au, .au] [4] [] hS hE trivial fun a w hS => ?_
    refine wp_ret ?_
    try simp only [Exit.then, Exit.inBlock, Nat.reduceEqDiff, ↓reduceIte]
    rw [show (.sc (.int .i64 (modD n 30))) = ((.sc (.int .i64 (Int.tmod n 30))) : PX.PV) from by unfold modD; rw [if_neg (of_decide_eq_false h2)]]
    exact PX.ret_s hS hE (by kernel_rfl) (by kernel_rfl) (by kernel_rfl) (.inl rfl)
end Go.Proofs.YtlaiafalilcgjaaGreatDoor
