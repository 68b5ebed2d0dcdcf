/- Proved: same.Code on plain data -/
import Derived.Test.YtlkcidmmpeebeaaCkA
import Derived.Test.YtlkcidmmpeebeaaPcD
import Derived.Test.YtlkcidmmpeebeaaCkB
import Derived.Test.YtlkcidmmpeebeaaCkC
set_option linter.unusedVariables false
set_option linter.unusedSimpArgs false
namespace Go.Proofs.Ytlkcidmmpeebeaa
open Go.RowKit Go.PX
set_option maxRecDepth 100000
end Go.Proofs.Ytlkcidmmpeebeaa

/- Proved: slices.Clone on plain data -/
namespace Go.Proofs.Ytlkcidmmpeebeaa
open Go.RowKit Go.PX
set_option maxRecDepth 100000
theorem eq_nil23 (i:Nat) (A:Option Addr) (n c:Nat):PX.BinIs Try.prog .eql 23 (.tmp i) (.const (.slice none 0 0)) (.slice A n c) (.slice none 0 0) (.bool A.isNone):=by
 intro w
 simp [go_sem,eqGuard,Try.underlying23]
 cases A with
 | none=>exact Lib.run_eql_slice_nil w 23 99 none n c 0 0 Try.underlying23
 | some a=>exact Lib.run_eql_slice_nil w 23 99 (some a) n c 0 0 Try.underlying23

set_option maxHeartbeats 400000 in
theorem clone47_s (xs:List (Int × Int × Int)) (ad:Addr) (n cp:Nat) (hl:xs.length≤1000000):PX.Con Try.prog 47 [(.sc ((.slice (some ad) n cp)))] [(1,.ty (.slice (some ad) n cp) (.imm 3 (xs.map encR)))] 2 100000 (.own 3 3 (xs.map encR).length) [(1,none),(3,some (.row 99 3 true (xs.map encR)))]:=by
 refine PX.con_intro [(.sc ((.slice (some ad) n cp)))] 8 Try.func47 rfl rfl (by kernel_rfl) (by kernel_rfl) ?_
 intro E a hE hS
 generalize E.w0=w at hS ⊢
 have mix:=mixed
 refine PX.G [] [] 2 [] [] [.au] [0] [1] hS hE trivial fun a w hS=>?_
 refine wp_seq_k fun K1 hK1=>?_
 refine PX.G [(.e 4 (.sc (.bool false)))] [] 2 [.q (PX.BinIs Try.prog .eql 23 (.tmp 3) (.const (.slice none 0 0)) (.slice (some ad) n cp) (.slice none 0 0) (.bool false))] [] [.au,.bs (.bool false)] [0,4] [1] hS hE ⟨eq_nil23 _ _ _ _,trivial⟩ fun a w hS=>?_
 refine PX.cond_s false hS (by kernel_rfl) (fun h2=>nomatch h2) (fun h2=>?_)
 refine wp_skip ?_
 refine hK1 _ _ ?_
 replace hS:=PX.sl [0,4] (PX.reslot_g (t:=0) (g:=1) hS rfl rfl)
 refine PX.G [(.e 2 (.own 3 3 (0+(xs.map encR).length)))] [(3,.row 99 3 true (xs.map encR))] 4 [.b (lenIs 0 ([])),.b true,.b (Nat.ble (0+(xs.map encR).length) 1000000000)] [] [.au,.au,.au,.au] [0,2] [1,3] hS hE ⟨rfl,rfl,by simp; omega,trivial⟩ fun a w hS=>?_
 refine wp_ret ?_
 rw [show (.own 3 3 (xs.map encR).length)=((.own 3 3 (0+(xs.map encR).length)):PX.PV) from by congr 1; simp]
 exact PX.rt hS hE (.inl rfl)

set_option maxHeartbeats 400000 in
theorem clone47_n  : PX.Con Try.prog 47 [(.sc (.slice none 0 0))] [] 1 100000 (.sc (.slice none 0 0)) []:=by
 refine PX.con_intro [(.sc (.slice none 0 0))] 8 Try.func47 rfl rfl (by kernel_rfl) (by kernel_rfl) ?_
 intro E a hE hS
 generalize E.w0=w at hS ⊢
 have mix:=mixed
 refine PX.G [] [] 1 [] [] [.au] [0] [] hS hE trivial fun a w hS=>?_
 refine wp_seq_k fun K1 hK1=>?_
 refine PX.G [(.e 4 (.sc (.bool true)))] [] 1 [.q (PX.BinIs Try.prog .eql 23 (.tmp 3) (.const (.slice none 0 0)) (.slice none 0 0) (.slice none 0 0) (.bool true))] [] [.au,.bs (.bool true)] [0,4] [] hS hE ⟨eq_nil23 _ _ _ _,trivial⟩ fun a w hS=>?_
 refine PX.cond_s true hS (by kernel_rfl) (fun h2=>?_) (fun h2=>nomatch h2)
 refine PX.G [(.e 2 (.sc (.slice none 0 0)))] [] 1 [] [] [.au] [2] [] hS hE trivial fun a w hS=>?_
 refine wp_ret ?_
 exact PX.rt hS hE (.inl rfl)

theorem con_cloneC_o {xs:List (Int × Int × Int)} {lo:Nat} (hi:∀ x∈xs,RecI x) (hl:xs.length≤1000000):PX.Con Try.prog 47 [.imm 3 (xs.map encR)] [] lo (lo+1) (.own lo 3 xs.length) [(lo,some (.row 99 3 true (xs.map encR)))]:=by
 have h:=PX.clone_own (f:=47) (P:=Try.prog) (rows:=xs.map encR) (e:=99) (sz:=3) (by simp; omega) (fun r hr=>by obtain ⟨x,_,rfl⟩:=List.mem_map.1 hr; exact ⟨rfl,rfl⟩) (fun ad n cp=>clone47_s xs ad n cp hl) clone47_n lo
 rwa [List.length_map] at h
theorem con_cloneC {lo top:Nat} {xs:List (Int × Int × Int)} (hi:∀ x∈xs,RecI x) (hl:xs.length≤1000000):PX.Con Try.prog 47 [.imm 3 (xs.map encR)] [] lo top (.imm 3 (xs.map encR)) []:=by
 have h:=con_cloneC_o (lo:=1) hi hl
 rw [← List.length_map (f:=encR)] at h
 exact PX.clone_imm h lo top

theorem eq_nil24 (i:Nat) (A:Option Addr) (n c:Nat):PX.BinIs Try.prog .eql 24 (.tmp i) (.const (.slice none 0 0)) (.slice A n c) (.slice none 0 0) (.bool A.isNone):=by
 intro w
 simp [go_sem,eqGuard,Try.underlying24]
 cases A with
 | none=>exact Lib.run_eql_slice_nil w 24 102 none n c 0 0 Try.underlying24
 | some a=>exact Lib.run_eql_slice_nil w 24 102 (some a) n c 0 0 Try.underlying24

set_option maxHeartbeats 400000 in
theorem clone48_s (xs:List (Int × Int × Int)) (ad:Addr) (n cp:Nat) (hl:xs.length≤1000000):PX.Con Try.prog 48 [(.sc ((.slice (some ad) n cp)))] [(1,.ty (.slice (some ad) n cp) (.imm 3 (xs.map encR)))] 2 100000 (.own 3 3 (xs.map encR).length) [(1,none),(3,some (.row 102 3 true (xs.map encR)))]:=by
 refine PX.con_intro [(.sc ((.slice (some ad) n cp)))] 8 Try.func48 rfl rfl (by kernel_rfl) (by kernel_rfl) ?_
 intro E a hE hS
 generalize E.w0=w at hS ⊢
 have mix:=mixed
 refine PX.G [] [] 2 [] [] [.au] [0] [1] hS hE trivial fun a w hS=>?_
 refine wp_seq_k fun K1 hK1=>?_
 refine PX.G [(.e 4 (.sc (.bool false)))] [] 2 [.q (PX.BinIs Try.prog .eql 24 (.tmp 3) (.const (.slice none 0 0)) (.slice (some ad) n cp) (.slice none 0 0) (.bool false))] [] [.au,.bs (.bool false)] [0,4] [1] hS hE ⟨eq_nil24 _ _ _ _,trivial⟩ fun a w hS=>?_
 refine PX.cond_s false hS (by kernel_rfl) (fun h2=>nomatch h2) (fun h2=>?_)
 refine wp_skip ?_
 refine hK1 _ _ ?_
 replace hS:=PX.sl [0,4] (PX.reslot_g (t:=0) (g:=1) hS rfl rfl)
 refine PX.G [(.e 2 (.own 3 3 (0+(xs.map encR).length)))] [(3,.row 102 3 true (xs.map encR))] 4 [.b (lenIs 0 ([])),.b true,.b (Nat.ble (0+(xs.map encR).length) 1000000000)] [] [.au,.au,.au,.au] [0,2] [1,3] hS hE ⟨rfl,rfl,by simp; omega,trivial⟩ fun a w hS=>?_
 refine wp_ret ?_
 rw [show (.own 3 3 (xs.map encR).length)=((.own 3 3 (0+(xs.map encR).length)):PX.PV) from by congr 1; simp]
 exact PX.rt hS hE (.inl rfl)

set_option maxHeartbeats 400000 in
theorem clone48_n  : PX.Con Try.prog 48 [(.sc (.slice none 0 0))] [] 1 100000 (.sc (.slice none 0 0)) []:=by
 refine PX.con_intro [(.sc (.slice none 0 0))] 8 Try.func48 rfl rfl (by kernel_rfl) (by kernel_rfl) ?_
 intro E a hE hS
 generalize E.w0=w at hS ⊢
 have mix:=mixed
 refine PX.G [] [] 1 [] [] [.au] [0] [] hS hE trivial fun a w hS=>?_
 refine wp_seq_k fun K1 hK1=>?_
 refine PX.G [(.e 4 (.sc (.bool true)))] [] 1 [.q (PX.BinIs Try.prog .eql 24 (.tmp 3) (.const (.slice none 0 0)) (.slice none 0 0) (.slice none 0 0) (.bool true))] [] [.au,.bs (.bool true)] [0,4] [] hS hE ⟨eq_nil24 _ _ _ _,trivial⟩ fun a w hS=>?_
 refine PX.cond_s true hS (by kernel_rfl) (fun h2=>?_) (fun h2=>nomatch h2)
 refine PX.G [(.e 2 (.sc (.slice none 0 0)))] [] 1 [] [] [.au] [2] [] hS hE trivial fun a w hS=>?_
 refine wp_ret ?_
 exact PX.rt hS hE (.inl rfl)

theorem con_cloneO_o {xs:List (Int × Int × Int)} {lo:Nat} (hi:∀ x∈xs,RecI x) (hl:xs.length≤1000000):PX.Con Try.prog 48 [.imm 3 (xs.map encR)] [] lo (lo+1) (.own lo 3 xs.length) [(lo,some (.row 102 3 true (xs.map encR)))]:=by
 have h:=PX.clone_own (f:=48) (P:=Try.prog) (rows:=xs.map encR) (e:=102) (sz:=3) (by simp; omega) (fun r hr=>by obtain ⟨x,_,rfl⟩:=List.mem_map.1 hr; exact ⟨rfl,rfl⟩) (fun ad n cp=>clone48_s xs ad n cp hl) clone48_n lo
 rwa [List.length_map] at h
theorem con_cloneO {lo top:Nat} {xs:List (Int × Int × Int)} (hi:∀ x∈xs,RecI x) (hl:xs.length≤1000000):PX.Con Try.prog 48 [.imm 3 (xs.map encR)] [] lo top (.imm 3 (xs.map encR)) []:=by
 have h:=con_cloneO_o (lo:=1) hi hl
 rw [← List.length_map (f:=encR)] at h
 exact PX.clone_imm h lo top

theorem eq_nil35 (i:Nat) (A:Option Addr) (n c:Nat):PX.BinIs Try.prog .eql 35 (.tmp i) (.const (.slice none 0 0)) (.slice A n c) (.slice none 0 0) (.bool A.isNone):=by
 intro w
 simp [go_sem,eqGuard,Try.underlying35]
 cases A with
 | none=>exact Lib.run_eql_slice_nil w 35 3 none n c 0 0 Try.underlying35
 | some a=>exact Lib.run_eql_slice_nil w 35 3 (some a) n c 0 0 Try.underlying35

set_option maxHeartbeats 400000 in
theorem clone49_s (xs:List Int) (ad:Addr) (n cp:Nat) (hl:xs.length≤1000000):PX.Con Try.prog 49 [(.sc ((.slice (some ad) n cp)))] [(1,.ty (.slice (some ad) n cp) (.imm 1 (xs.map encI)))] 2 100000 (.own 3 1 (xs.map encI).length) [(1,none),(3,some (.row 3 1 true (xs.map encI)))]:=by
 refine PX.con_intro [(.sc ((.slice (some ad) n cp)))] 8 Try.func49 rfl rfl (by kernel_rfl) (by kernel_rfl) ?_
 intro E a hE hS
 generalize E.w0=w at hS ⊢
 have mix:=mixed
 refine PX.G [] [] 2 [] [] [.au] [0] [1] hS hE trivial fun a w hS=>?_
 refine wp_seq_k fun K1 hK1=>?_
 refine PX.G [(.e 4 (.sc (.bool false)))] [] 2 [.q (PX.BinIs Try.prog .eql 35 (.tmp 3) (.const (.slice none 0 0)) (.slice (some ad) n cp) (.slice none 0 0) (.bool false))] [] [.au,.bs (.bool false)] [0,4] [1] hS hE ⟨eq_nil35 _ _ _ _,trivial⟩ fun a w hS=>?_
 refine PX.cond_s false hS (by kernel_rfl) (fun h2=>nomatch h2) (fun h2=>?_)
 refine wp_skip ?_
 refine hK1 _ _ ?_
 replace hS:=PX.sl [0,4] (PX.reslot_g (t:=0) (g:=1) hS rfl rfl)
 refine PX.G [(.e 2 (.own 3 1 (0+(xs.map encI).length)))] [(3,.row 3 1 true (xs.map encI))] 4 [.b (lenIs 0 ([])),.b true,.b (Nat.ble (0+(xs.map encI).length) 1000000000)] [] [.au,.au,.au,.au] [0,2] [1,3] hS hE ⟨rfl,rfl,by simp; omega,trivial⟩ fun a w hS=>?_
 refine wp_ret ?_
 rw [show (.own 3 1 (xs.map encI).length)=((.own 3 1 (0+(xs.map encI).length)):PX.PV) from by congr 1; simp]
 exact PX.rt hS hE (.inl rfl)

set_option maxHeartbeats 400000 in
theorem clone49_n  : PX.Con Try.prog 49 [(.sc (.slice none 0 0))] [] 1 100000 (.sc (.slice none 0 0)) []:=by
 refine PX.con_intro [(.sc (.slice none 0 0))] 8 Try.func49 rfl rfl (by kernel_rfl) (by kernel_rfl) ?_
 intro E a hE hS
 generalize E.w0=w at hS ⊢
 have mix:=mixed
 refine PX.G [] [] 1 [] [] [.au] [0] [] hS hE trivial fun a w hS=>?_
 refine wp_seq_k fun K1 hK1=>?_
 refine PX.G [(.e 4 (.sc (.bool true)))] [] 1 [.q (PX.BinIs Try.prog .eql 35 (.tmp 3) (.const (.slice none 0 0)) (.slice none 0 0) (.slice none 0 0) (.bool true))] [] [.au,.bs (.bool true)] [0,4] [] hS hE ⟨eq_nil35 _ _ _ _,trivial⟩ fun a w hS=>?_
 refine PX.cond_s true hS (by kernel_rfl) (fun h2=>?_) (fun h2=>nomatch h2)
 refine PX.G [(.e 2 (.sc (.slice none 0 0)))] [] 1 [] [] [.au] [2] [] hS hE trivial fun a w hS=>?_
 refine wp_ret ?_
 exact PX.rt hS hE (.inl rfl)

theorem con_cloneI_o {xs:List Int} {lo:Nat} (hi:∀ x∈xs,I64 x) (hl:xs.length≤1000000):PX.Con Try.prog 49 [.imm 1 (xs.map encI)] [] lo (lo+1) (.own lo 1 xs.length) [(lo,some (.row 3 1 true (xs.map encI)))]:=by
 have h:=PX.clone_own (f:=49) (P:=Try.prog) (rows:=xs.map encI) (e:=3) (sz:=1) (by simp; omega) (fun r hr=>by obtain ⟨x,_,rfl⟩:=List.mem_map.1 hr; exact ⟨rfl,rfl⟩) (fun ad n cp=>clone49_s xs ad n cp hl) clone49_n lo
 rwa [List.length_map] at h
theorem con_cloneI {lo top:Nat} {xs:List Int} (hi:∀ x∈xs,I64 x) (hl:xs.length≤1000000):PX.Con Try.prog 49 [.imm 1 (xs.map encI)] [] lo top (.imm 1 (xs.map encI)) []:=by
 have h:=con_cloneI_o (lo:=1) hi hl
 rw [← List.length_map (f:=encI)] at h
 exact PX.clone_imm h lo top

theorem eq_nil55 (i:Nat) (A:Option Addr) (n c:Nat):PX.BinIs Try.prog .eql 55 (.tmp i) (.const (.slice none 0 0)) (.slice A n c) (.slice none 0 0) (.bool A.isNone):=by
 intro w
 simp [go_sem,eqGuard,Try.underlying55]
 cases A with
 | none=>exact Lib.run_eql_slice_nil w 55 74 none n c 0 0 Try.underlying55
 | some a=>exact Lib.run_eql_slice_nil w 55 74 (some a) n c 0 0 Try.underlying55

set_option maxHeartbeats 400000 in
theorem clone51_s (xs:List OpD) (ad:Addr) (n cp:Nat) (hl:xs.length≤1000000):PX.Con Try.prog 51 [(.sc ((.slice (some ad) n cp)))] [(1,.ty (.slice (some ad) n cp) (.imm 11 (xs.map encO)))] 2 100000 (.own 3 11 (xs.map encO).length) [(1,none),(3,some (.row 74 11 true (xs.map encO)))]:=by
 refine PX.con_intro [(.sc ((.slice (some ad) n cp)))] 8 Try.func51 rfl rfl (by kernel_rfl) (by kernel_rfl) ?_
 intro E a hE hS
 generalize E.w0=w at hS ⊢
 have mix:=mixed
 refine PX.G [] [] 2 [] [] [.au] [0] [1] hS hE trivial fun a w hS=>?_
 refine wp_seq_k fun K1 hK1=>?_
 refine PX.G [(.e 4 (.sc (.bool false)))] [] 2 [.q (PX.BinIs Try.prog .eql 55 (.tmp 3) (.const (.slice none 0 0)) (.slice (some ad) n cp) (.slice none 0 0) (.bool false))] [] [.au,.bs (.bool false)] [0,4] [1] hS hE ⟨eq_nil55 _ _ _ _,trivial⟩ fun a w hS=>?_
 refine PX.cond_s false hS (by kernel_rfl) (fun h2=>nomatch h2) (fun h2=>?_)
 refine wp_skip ?_
 refine hK1 _ _ ?_
 replace hS:=PX.sl [0,4] (PX.reslot_g (t:=0) (g:=1) hS rfl rfl)
 refine PX.G [(.e 2 (.own 3 11 (0+(xs.map encO).length)))] [(3,.row 74 11 true (xs.map encO))] 4 [.b (lenIs 0 ([])),.b true,.b (Nat.ble (0+(xs.map encO).length) 1000000000)] [] [.au,.au,.au,.au] [0,2] [1,3] hS hE ⟨rfl,rfl,by simp; omega,trivial⟩ fun a w hS=>?_
 refine wp_ret ?_
 rw [show (.own 3 11 (xs.map encO).length)=((.own 3 11 (0+(xs.map encO).length)):PX.PV) from by congr 1; simp]
 exact PX.rt hS hE (.inl rfl)

set_option maxHeartbeats 400000 in
theorem clone51_n  : PX.Con Try.prog 51 [(.sc (.slice none 0 0))] [] 1 100000 (.sc (.slice none 0 0)) []:=by
 refine PX.con_intro [(.sc (.slice none 0 0))] 8 Try.func51 rfl rfl (by kernel_rfl) (by kernel_rfl) ?_
 intro E a hE hS
 generalize E.w0=w at hS ⊢
 have mix:=mixed
 refine PX.G [] [] 1 [] [] [.au] [0] [] hS hE trivial fun a w hS=>?_
 refine wp_seq_k fun K1 hK1=>?_
 refine PX.G [(.e 4 (.sc (.bool true)))] [] 1 [.q (PX.BinIs Try.prog .eql 55 (.tmp 3) (.const (.slice none 0 0)) (.slice none 0 0) (.slice none 0 0) (.bool true))] [] [.au,.bs (.bool true)] [0,4] [] hS hE ⟨eq_nil55 _ _ _ _,trivial⟩ fun a w hS=>?_
 refine PX.cond_s true hS (by kernel_rfl) (fun h2=>?_) (fun h2=>nomatch h2)
 refine PX.G [(.e 2 (.sc (.slice none 0 0)))] [] 1 [] [] [.au] [2] [] hS hE trivial fun a w hS=>?_
 refine wp_ret ?_
 exact PX.rt hS hE (.inl rfl)

theorem con_cloneP_o {xs:List OpD} {lo:Nat} (hi:∀ x∈xs,OpI x) (hl:xs.length≤1000000):PX.Con Try.prog 51 [.imm 11 (xs.map encO)] [] lo (lo+1) (.own lo 11 xs.length) [(lo,some (.row 74 11 true (xs.map encO)))]:=by
 have h:=PX.clone_own (f:=51) (P:=Try.prog) (rows:=xs.map encO) (e:=74) (sz:=11) (by simp; omega) (fun r hr=>by obtain ⟨x,_,rfl⟩:=List.mem_map.1 hr; exact ⟨rfl,rfl⟩) (fun ad n cp=>clone51_s xs ad n cp hl) clone51_n lo
 rwa [List.length_map] at h
theorem con_cloneP {lo top:Nat} {xs:List OpD} (hi:∀ x∈xs,OpI x) (hl:xs.length≤1000000):PX.Con Try.prog 51 [.imm 11 (xs.map encO)] [] lo top (.imm 11 (xs.map encO)) []:=by
 have h:=con_cloneP_o (lo:=1) hi hl
 rw [← List.length_map (f:=encO)] at h
 exact PX.clone_imm h lo top
end Go.Proofs.Ytlkcidmmpeebeaa

/- Proved: the contracts that all laws share: the two checks of a function's code,its operations counted,the comparison of two codes. -/
namespace Go.Proofs.Ytlkcidmmpeebeaa
open Go.RowKit Go.PX
section
variable {lo top:Nat} {c:CodeD}
theorem con_check (hi:CodeI c):Con Try.prog 46 [codeP c] [] lo top (.sc (.int .i64 (P.check c (totW c.blocks)))) []:=con_len fun hl=>PX.con_any (con_f46 c hl)
theorem con_rcheck (hi:CodeI c):Con Try.prog 18 [codeP c] [] lo top (.sc (.int .i64 (R.check c (totW c.blocks)))) []:=con_len fun hl=>PX.con_any (con_f18 c hl)
end
end Go.Proofs.Ytlkcidmmpeebeaa

/- Proved: what a check that is passed bounds. -/
namespace Go.Proofs.Ytlkcidmmpeebeaa
open Go.RowKit Go.PX
theorem fold_mono:∀ (l:List BlockD) (n:Int),0≤n→n+l.length*140737488351232≤9223372036854775807→(∀ b∈l,b.ops.length≤140737488351232)→n≤l.foldl (fun n b=>IntKind.i64.wrap (n+(b.ops.length:Int))) n∧∀ b∈l,(b.ops.length:Int)≤l.foldl (fun n b=>IntKind.i64.wrap (n+(b.ops.length:Int))) n
  | [],n,_,_,_=>⟨Int.le_refl _,fun b hb=>by cases hb⟩
  | x::l,n,h0,hn,hb=>by
    have hx:=hb x (by simp)
    simp only [List.length_cons] at hn
    have e:IntKind.i64.wrap (n+(x.ops.length:Int))=n+x.ops.length:=by
      have:=SX.wrap_ok (z:=n+(x.ops.length:Int)) (by omega)
      injection this
    simp only [List.foldl_cons,e]
    obtain ⟨h1,h2⟩:=fold_mono l (n+x.ops.length) (by omega) (by omega) (fun b hb'=>hb b (by simp [hb']))
    refine ⟨by omega,fun b hb'=>?_⟩
    rcases List.mem_cons.1 hb' with rfl | hb'
    · omega
    · exact h2 b hb'
theorem edge_len {c:CodeD} {blk more:Int} {args all:List Int} (hm:0≤more) (hp:∀ b∈c.blocks,b.params≤999) (h:R.edge c blk args all more=true):args.length≤999:=by
  unfold R.edge at h
  split at h
  · cases h
  · rename_i q
    simp only [Bool.or_eq_true,decide_eq_true_eq,not_or,bne_iff_ne,ne_eq,Classical.not_not] at q
    have:R.paramsAt c blk≤999:=by
      unfold R.paramsAt
      cases hb:c.blocks[blk.toNat]? with
      | none=>simp
      | some b=>simpa using hp b (List.mem_of_getElem? hb)
    omega
theorem none_len {blk:Int} {args:List Int} (h:R.none_ blk args=true):args.length≤999:=by
  unfold R.none_ at h
  simp only [Bool.and_eq_true,beq_iff_eq] at h
  omega
theorem term_len {c:CodeD} {b:BlockD} (hp:∀ b∈c.blocks,b.params≤999) (h:R.term c b=true):b.term.args.length≤4∧b.term.args0.length≤999∧b.term.args1.length≤999:=by
  unfold R.term at h
  simp only at h
  split at h
  · cases h
  rename_i q0
  split at h
  · cases h
  have hargs:b.term.args.length≤4:=by
    simp only [Bool.or_eq_true,Bool.and_eq_true,not_or,not_and,decide_eq_true_eq,Bool.not_eq_true',Bool.or_eq_false_iff,beq_eq_false_iff_ne] at q0
    by_cases h3:b.term.kind=3
    · have:=(q0.2 (Or.inl (by simpa using h3))); omega
    · by_cases h6:b.term.kind=6
      · have:=(q0.2 (Or.inr (by simpa using h6))); omega
      · have:=(q0.1.2 ⟨h3,h6⟩); omega
  refine ⟨hargs,?_⟩
  split at h
  · simp only [Bool.and_eq_true] at h; exact ⟨edge_len (Int.le_refl _) hp h.1,none_len h.2⟩
  split at h
  · simp only [Bool.and_eq_true] at h; exact ⟨edge_len (Int.le_refl _) hp h.1,edge_len (Int.le_refl _) hp h.2⟩
  split at h
  · simp only [Bool.and_eq_true,Bool.or_eq_true] at h
    refine ⟨edge_len (by decide) hp h.1,?_⟩
    rcases h.2 with h | h
    · exact none_len h
    · exact edge_len (by decide) hp h
  split at h
  · simp only [Bool.and_eq_true] at h; exact ⟨none_len h.1,none_len h.2⟩
  · cases h
/-- what a check that is passed bounds -/
structure Fit (c:CodeD):Prop where
  blocks:c.blocks.length≤400
  ctx:c.contexts.length≤64
  obj:c.objects.length≤64
  ops:∀ b∈c.blocks,b.ops.length≤6000
  term:∀ b∈c.blocks,b.term.args.length≤4∧b.term.args0.length≤999∧b.term.args1.length≤999
theorem fit_of {c:CodeD} (hi:CodeI c) (h:R.check c (totW c.blocks)=0):Fit c:=by
  unfold R.check at h
  split at h
  · cases h
  rename_i q
  simp only [Bool.or_eq_true,decide_eq_true_eq,not_or,Nat.not_lt] at q
  split at h
  · cases h
  split at h
  · rename_i q2
    have hb:c.blocks.length≤400:=by omega
    have hall:=List.all_eq_true.1 q2
    have hp:∀ b∈c.blocks,b.params≤999:=fun b hb'=>by
      have:=hall b hb'
      simp only [Bool.and_eq_true,Bool.not_eq_true',Bool.or_eq_false_iff,decide_eq_false_iff_not] at this
      omega
    refine ⟨hb,by omega,by omega,fun b hb'=>?_,fun b hb'=>?_⟩
    · have:=(fold_mono c.blocks 0 (Int.le_refl _) (by omega) (fun b hb'=>(hi.2.1 b hb').2.2.2.2.2)).2 b hb'
      have h2:totW c.blocks≤6000:=by omega
      unfold totW at h2
      omega
    · have:=hall b hb'
      simp only [Bool.and_eq_true] at this
      exact term_len hp this.2
  · cases h
end Go.Proofs.Ytlkcidmmpeebeaa
