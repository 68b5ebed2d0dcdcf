/- Proved: alloc.blkPllaces -/
import Derived.Test.YtlkcidmmpeebeaaPAlC
set_option linter.unusedVariables false
set_option linter.unusedSimpArgs false
namespace Go.Proofs.Ytlkcidmmpeebeaa
open Go.RowKit Go.PX
set_option maxRecDepth 100000
def cntStep (n:Int) (o:OpD):Int:=if R.defines o.kind=true then mxI n (o.dst+1) else n
def cntI (b:BlockD):Int:=b.ops.foldl cntStep b.params
theorem cnt_take (x:Int) {ops:List OpD} {k:Nat} {y:OpD} (hy:ops[k]?=some y):(ops.take (k+1)).foldl cntStep x=cntStep ((ops.take k).foldl cntStep x) y:=by
 rw [List.take_add_one,hy]; simp [List.foldl_append]
def parStep (la:List Int) (s:List Int × List PlaceD) (v:Nat):List Int × List PlaceD :=
 if v<8 then (s.1.set (v+1) (PX.g la v),s.2.set v (2,((v+1:Nat):Int),0)) else (s.1,s.2.set v (3,(v:Int)-8,0))
def parK (la:List Int) (cn:Nat):Nat→List Int × List PlaceD
 | 0=>(List.replicate 13 (-1),List.replicate cn (0,0,0))
 | v+1=>parStep la (parK la cn v) v
theorem parK_len (la:List Int) (cn:Nat):∀ v,(parK la cn v).1.length=13∧(parK la cn v).2.length=cn
 | 0=>by simp [parK]
 | v+1=>by
  have h:=parK_len la cn v
  unfold parK parStep
  split <;> simp [h.1,h.2]
def opP (la:List Int) (first:Int) (s:List Int × List Int × List PlaceD) (p:OpD × Nat):List Int × List Int × List PlaceD :=
 if R.defines p.1.kind=true then
  (if (freeD s.1 s.2.1 first p.2).1.1=2 then (s.1.set (freeD s.1 s.2.1 first p.2).1.2.1.toNat (PX.g la p.1.dst.toNat),(freeD s.1 s.2.1 first p.2).2,s.2.2.set p.1.dst.toNat (freeD s.1 s.2.1 first p.2).1)
  else (s.1,(freeD s.1 s.2.1 first p.2).2.set ((freeD s.1 s.2.1 first p.2).1.2.1-first).toNat (PX.g la p.1.dst.toNat),s.2.2.set p.1.dst.toNat (freeD s.1 s.2.1 first p.2).1))
 else s
def opsK (la:List Int) (cn:Nat) (first:Int) (b:BlockD) (q:Nat):List Int × List Int × List PlaceD :=
 (b.ops.take q).zipIdx.foldl (opP la first) ((parK la cn b.params.toNat).1,[],(parK la cn b.params.toNat).2)
theorem opsK_succ {la:List Int} {cn:Nat} {first:Int} {b:BlockD} {q:Nat} {y:OpD} (hy:b.ops[q]?=some y):opsK la cn first b (q+1)=opP la first (opsK la cn first b q) (y,q):=by
 unfold opsK; rw [fold_take _ _ hy]
theorem freeD_spec (regs spills:List Int) (first k:Int):((freeD regs spills first k).1.1=2∧1≤(freeD regs spills first k).1.2.1∧(freeD regs spills first k).1.2.1≤12∧(freeD regs spills first k).2=spills) ∨
  ((freeD regs spills first k).1.1=3∧first≤(freeD regs spills first k).1.2.1∧(freeD regs spills first k).1.2.1<first+(freeD regs spills first k).2.length):=by
 unfold freeD
 split
 ·rename_i r hr
  have:=List.mem_of_find?_eq_some hr
  simp only [List.mem_range] at this
  exact .inl ⟨rfl,by simp only; omega,by simp only; omega,rfl⟩
 ·split
  ·rename_i s hs
   have:=List.mem_of_find?_eq_some hs
   simp only [List.mem_range] at this
   exact .inr ⟨rfl,by simp only; omega,by simp only; omega⟩
  ·exact .inr ⟨rfl,by simp only; omega,by simp; omega⟩
theorem freeD_len (regs spills:List Int) (first k:Int):(freeD regs spills first k).2.length≤spills.length+1:=by
 unfold freeD
 split
 ·simp
 ·split <;> simp
theorem opP_len (la:List Int) (first:Int) (s:List Int × List Int × List PlaceD) (p:OpD × Nat):(opP la first s p).1.length=s.1.length∧(opP la first s p).2.1.length≤s.2.1.length+1∧(opP la first s p).2.2.length=s.2.2.length:=by
 have h:=freeD_len s.1 s.2.1 first p.2
 unfold opP
 split
 ·split <;> simp <;> omega
 ·simp
theorem foldP_len (la:List Int) (first:Int):∀ (xs:List (OpD × Nat)) (s:List Int × List Int × List PlaceD),(xs.foldl (opP la first) s).1.length=s.1.length∧(xs.foldl (opP la first) s).2.1.length≤s.2.1.length+xs.length∧(xs.foldl (opP la first) s).2.2.length=s.2.2.length
 | [],s=>by simp
 | x::xs,s=>by
  have h1:=opP_len la first s x
  have h2:=foldP_len la first xs (opP la first s x)
  rw [List.foldl_cons,List.length_cons]
  exact ⟨h2.1.trans h1.1,by omega,h2.2.2.trans h1.2.2⟩
theorem opsK_len (la:List Int) (cn:Nat) (first:Int) (b:BlockD) (q:Nat):(opsK la cn first b q).1.length=13∧(opsK la cn first b q).2.1.length≤b.ops.length∧(opsK la cn first b q).2.2.length=cn:=by
 have h:=foldP_len la first (b.ops.take q).zipIdx ((parK la cn b.params.toNat).1,[],(parK la cn b.params.toNat).2)
 have h2:=parK_len la cn b.params.toNat
 unfold opsK
 refine ⟨h.1.trans h2.1,Nat.le_trans h.2.1 ?_,h.2.2.trans h2.2⟩
 simp; omega
theorem set_minus13 {k:Nat} (h:k<13):(List.replicate k (-1:Int)++List.replicate (13-k) 0).set k (-1)=List.replicate (k+1) (-1:Int)++List.replicate (13-(k+1)) 0:=by
 obtain ⟨d,hd⟩:∃ d,13-k=d+1:=⟨13-k-1,by omega⟩
 rw [hd,show 13-(k+1)=d by omega,List.replicate_succ,List.replicate_succ',List.set_append_right _ _ (by simp)]
 simp
def blkPl (keep:Bool) (first:Int) (cn:Nat) (b:BlockD):List PlaceD × Nat:=((opsK (lastD keep cn b) cn first b b.ops.length).2.2,(opsK (lastD keep cn b) cn first b b.ops.length).2.1.length)
theorem g_some {l:List Int} {k:Nat} {z:Int} (h:l[k]?=some z):PX.g l k=z:=by unfold PX.g; rw [h]; rfl

set_option maxHeartbeats 2000000 in
theorem con_f72 (keep:Bool) (cn:Nat) (first:Int) (b:BlockD) (ho:AOk cn b) (hpar:b.params≤(cn:Int)) (hcn:cntI b=(cn:Int)) (hfirst:0≤first∧first≤1000000) (hM:keep=true→M144 cn b):PX.Con Try.prog 72 [(.agg (encB b)),(.J first),(.sc (.bool keep))] [] 1 100000 (.tup [.imm 3 ((blkPl keep first cn b).1.map encR),.sc (.I (((blkPl keep first cn b).2:Nat):Int))]) []:=by
 refine PX.con_intro [(.agg (encB b)),(.J first),(.sc (.bool keep))] 125 Try.func72 rfl rfl (by kernel_rfl) (by kernel_rfl) ?_
 intro E a hE hS
 generalize E.w0=w at hS ⊢
 have mix:=mixed
 have hpos:=ho.pos; have hops:=ho.ops
 refine PX.G [(.e 3 (.ptr 1 0)),(.e 4 (.ptr 2 0))] [(1,.box 62 (encB b)),(2,.box 3 [(.J first)])] 3 [] [] [.au,.au,.au,.au] [2,3,4] [1,2] hS hE trivial fun a w hS=>?_
 refine PX.G [(.e 8 (.J b.params))] [] 3 [] [] [.au,.au,.au] [2,3,4,8] [1,2] hS hE trivial fun a w hS=>?_
 refine wp_seq_k fun K1 hK1=>?_
 refine PX.G [(.e 24 (.imm 11 (b.ops.map encO))),(.e 25 (.sc (.I (b.ops.length:Int)))),(.e 26 (.J 0))] [] 3 [.q ((.sc (.I (((b.ops.map encO).length:Nat):Int)):PX.PV)=(.sc (.I (b.ops.length:Int))))] [] [.au,.au,.nm (.sc (.I (b.ops.length:Int))),.au] [2,3,4,8,24,25,26] [1,2] hS hE ⟨PX.nm_len (by simp),trivial⟩ fun a w hS=>?_
 refine wp_block ?_
 refine wp_loop_ghost (fun m2 a' w'=>∃ k:Nat,m2=b.ops.length-k∧k≤b.ops.length∧True∧PX.Sat E 125 [(.e 2 (.sc (.bool keep))),(.e 3 (.ptr 1 0)),(.e 4 (.ptr 2 0)),(.e 8 (.sc (.I ((b.ops.take (k)).foldl cntStep b.params)))),(.e 24 (.imm 11 (b.ops.map encO))),(.e 25 (.sc (.I (b.ops.length:Int)))),(.e 26 (.sc (.I (k:Int))))] [(1,.box 62 (encB b)),(2,.box 3 [(.J first)])] 3 a' w') (b.ops.length-0) ⟨0,rfl,Nat.zero_le _,trivial,(PX.canon [] _ _ 3 hS hE (by kernel_rfl) (by kernel_rfl) (by kernel_rfl))⟩ ?_
 clear hS; rintro m2 a w ⟨k,hm2,hlek,hIk,hS⟩
 refine PX.G [(.e 27 (.sc (.bool (decide ((k:Int)<(b.ops.length:Int))))))] [] 3 [] [] [.au] [2,3,4,8,24,25,26,27] [1,2] hS hE trivial fun a w hS=>?_
 refine wp_seq_k fun K3 hK3=>?_
 refine PX.cond_s (decide ((k:Int)<(b.ops.length:Int))) hS (by kernel_rfl) (fun h4=>?_) (fun h4=>?_)
 ·skip
  refine wp_skip ?_
  refine hK3 _ _ ?_
  refine wp_seq_k fun K5 hK5=>?_
  refine wp_block ?_
  have hlty:k<b.ops.length:=by simpa using h4
  obtain ⟨y,hy⟩:=get_of_lt hlty
  refine PX.G [(.e 10 (.ptr 3 0))] [(3,.box 74 (encO y))] 4 [.q ((k:Int)=(k:Int)),.q ((b.ops.map encO)[k]?=some (encO y))] [] [.ix k (encO y),.au,.au,.au] [2,3,4,8,10,24,25,26] [1,2,3] hS hE ⟨rfl,PX.map_get hy,trivial⟩ fun a w hS=>?_
  refine PX.G [(.e 32 (.sc (.bool (R.defines y.kind))))] [] 4 [.q (PX.Con Try.prog 104 [(.J y.kind)] [] 4 4 (.sc (.bool (R.defines y.kind))) [])] [] [.au,.au,.cl [] (.sc (.bool (R.defines y.kind))) [] 4] [2,3,4,8,10,24,25,26,32] [1,2,3] hS hE ⟨PX.con_any (con_f104 y.kind),trivial⟩ fun a w hS=>?_
  refine PX.cond_s (R.defines y.kind) hS (by kernel_rfl) (fun h6=>?_) (fun h6=>?_)
  ·skip
   have hd:=ho.dst y (List.mem_of_getElem? hy) h6
   refine PX.G0 [(.e 8 (.sc (.I (if (y.dst+1) > ((b.ops.take (k)).foldl cntStep b.params) then (y.dst+1) else ((b.ops.take (k)).foldl cntStep b.params)))))] [] 4 [.q ((.sc (.I (IntKind.i64.wrap (y.dst+1))):PX.PV)=(.sc (.I (y.dst+1))))] [] [.au,.au,.au,.nm (.sc (.I (y.dst+1))),.au,.au] [2,3,4,8,24,25,26] [1,2] hS hE ⟨PX.nm_int (by rw [IntWalk.i64_in _ (by omega)]),trivial⟩ fun a w hS=>?_
   refine hK5 _ _ ?_
   refine PX.G0 [(.e 26 (.sc (.I ((k+1:Nat):Int))))] [] 4 [.q ((.sc (.I (IntKind.i64.wrap ((k:Int)+1))):PX.PV)=(.sc (.I ((k+1:Nat):Int))))] [] [.nm (.sc (.I ((k+1:Nat):Int))),.au] [2,3,4,8,24,25,26] [1,2] hS hE ⟨PX.nm_int (by rw [IntWalk.i64_in _ (by omega)]; omega),trivial⟩ fun a w hS=>?_
   replace hS:=PX.sl [2,3,4,8,24,25,26] (PX.reslot (t:=8) (.sc (.I ((b.ops.take (k+1)).foldl cntStep b.params))) hS rfl (fun _ _ _ _ h=>(show ((.sc (.I (if (y.dst+1) > ((b.ops.take (k)).foldl cntStep b.params) then (y.dst+1) else ((b.ops.take (k)).foldl cntStep b.params)))):PX.PV)=(.sc (.I ((b.ops.take (k+1)).foldl cntStep b.params))) from by rw [cnt_take _ hy]; unfold cntStep; rw [if_pos h6]; rfl) ▸ h))
   exact ⟨b.ops.length-(k+1),by omega,k+1,rfl,by omega,trivial,(PX.canon [] _ _ 3 hS hE (by kernel_rfl) (by kernel_rfl) (by kernel_rfl))⟩
  ·skip
   refine wp_skip ?_
   refine hK5 _ _ ?_
   refine PX.G0 [(.e 26 (.sc (.I ((k+1:Nat):Int))))] [] 4 [.q ((.sc (.I (IntKind.i64.wrap ((k:Int)+1))):PX.PV)=(.sc (.I ((k+1:Nat):Int))))] [] [.nm (.sc (.I ((k+1:Nat):Int))),.au] [2,3,4,8,24,25,26] [1,2] hS hE ⟨PX.nm_int (by rw [IntWalk.i64_in _ (by omega)]; omega),trivial⟩ fun a w hS=>?_
   replace hS:=PX.sl [2,3,4,8,24,25,26] (PX.reslot (t:=8) (.sc (.I ((b.ops.take (k+1)).foldl cntStep b.params))) hS rfl (fun _ _ _ _ h=>(show ((.sc (.I ((b.ops.take (k)).foldl cntStep b.params))):PX.PV)=(.sc (.I ((b.ops.take (k+1)).foldl cntStep b.params))) from by rw [cnt_take _ hy]; unfold cntStep; rw [if_neg (by rw [h6]; simp)]) ▸ h))
   exact ⟨b.ops.length-(k+1),by omega,k+1,rfl,by omega,trivial,(PX.canon [] _ _ 3 hS hE (by kernel_rfl) (by kernel_rfl) (by kernel_rfl))⟩
 ·skip
  refine wp_exit ?_
  refine hK1 _ _ ?_
  have hk0:k=b.ops.length:=by have:=le_of_dec h4; omega
  rw [hk0,List.take_length,show b.ops.foldl cntStep b.params=(cn:Int) from hcn] at hS
  refine PX.G [(.e 11 (.own 3 3 cn))] [(3,.row 78 3 true (List.replicate cn [(.J 0),(.J 0),(.J 0)]))] 4 [.q ((cn:Int)=(cn:Nat)),.q ((cn:Int)=(cn:Nat)),.b (Nat.ble cn 1000000000)] [] [.au,.mk cn,.au] [2,3,4,8,11] [1,2,3] hS hE ⟨rfl,rfl,by rw [Nat.ble_eq]; omega,trivial⟩ fun a w hS=>?_
  refine PX.G [(.e 12 (.imm 1 ((lastD keep cn b).map encI)))] [] 4 [.q (PX.Con Try.prog 105 [(.agg (encB b)),(.sc (.I (cn:Int))),(.sc (.bool keep))] [] 4 4 (.imm 1 ((lastD keep cn b).map encI)) [])] [] [.au,.au,.au,.cl [] (.imm 1 ((lastD keep cn b).map encI)) [] 4,.au] [3,4,11,12] [1,2,3] hS hE ⟨PX.con_any (con_f105 keep cn b ho hM),trivial⟩ fun a w hS=>?_
  refine PX.G [(.e 13 (.ptr 4 0))] [(4,.box 152 [(.J 0),(.J 0),(.J 0),(.J 0),(.J 0),(.J 0),(.J 0),(.J 0),(.J 0),(.J 0),(.J 0),(.J 0),(.J 0)])] 5 [] [] [.au] [3,4,11,12,13] [1,2,3,4] hS hE trivial fun a w hS=>?_
  refine wp_seq_k fun K7 hK7=>?_
  refine PX.G [(.e 45 (.J 0))] [] 5 [] [] [.au] [3,4,11,12,13,45] [1,2,3,4] hS hE trivial fun a w hS=>?_
  refine wp_block ?_
  replace hS:=PX.rebox (id:=4) (PX.cells13 (List.replicate 0 (-1)++List.replicate (13-0) 0)) hS rfl (rfl)
  refine wp_loop_ghost (fun m8 a' w'=>∃ k:Nat,m8=13-k∧k≤13∧True∧PX.Sat E 125 [(.e 3 (.ptr 1 0)),(.e 4 (.ptr 2 0)),(.e 11 (.own 3 3 cn)),(.e 12 (.imm 1 ((lastD keep cn b).map encI))),(.e 13 (.ptr 4 0)),(.e 45 (.sc (.I (k:Int))))] [(1,.box 62 (encB b)),(2,.box 3 [(.J first)]),(3,.row 78 3 true (List.replicate cn [(.J 0),(.J 0),(.J 0)])),(4,.box 152 (PX.cells13 (List.replicate (k) (-1)++List.replicate (13-(k)) 0)))] 5 a' w') (13-0) ⟨0,rfl,Nat.zero_le _,trivial,(PX.canon [] _ _ 5 hS hE (by kernel_rfl) (by kernel_rfl) (by kernel_rfl))⟩ ?_
  clear hS; rintro m8 a w ⟨k,hm8,hlek,hIk,hS⟩
  refine PX.G [(.e 46 (.sc (.bool (decide ((k:Int)<13)))))] [] 5 [] [] [.au] [3,4,11,12,13,45,46] [1,2,3,4] hS hE trivial fun a w hS=>?_
  refine wp_seq_k fun K9 hK9=>?_
  refine PX.cond_s (decide ((k:Int)<13)) hS (by kernel_rfl) (fun h10=>?_) (fun h10=>?_)
  ·skip
   refine wp_skip ?_
   refine hK9 _ _ ?_
   refine wp_seq_k fun K11 hK11=>?_
   refine wp_block ?_
   have hk13:k<13:=by have:=of_decide_eq_true h10; omega
   refine PX.G [(.e 14 (.sc (.I (k:Int))))] [] 5 [] [] [.au,.au] [3,4,11,12,13,14,45] [1,2,3,4] hS hE trivial fun a w hS=>?_
   refine PX.G0 [] [(4,.box 152 (PX.over (PX.cells13 (List.replicate (k) (-1)++List.replicate (13-(k)) 0)) (0+k*1) [(.sc (.I (-1)))]))] 5 [.q ((k:Int)=(k:Int)),.q (k<13),.q (0+k*1+1≤(PX.cells13 (List.replicate (k) (-1)++List.replicate (13-(k)) 0)).length)] [] [.au,.ix k [],.lr []] [3,4,11,12,13,45] [1,2,3,4] hS hE ⟨rfl,hk13,PX.cells13_len hk13,trivial⟩ fun a w hS=>?_
   refine hK11 _ _ ?_
   refine PX.G0 [(.e 45 (.sc (.I ((k+1:Nat):Int))))] [] 5 [.q ((.sc (.I (IntKind.i64.wrap ((k:Int)+1))):PX.PV)=(.sc (.I ((k+1:Nat):Int))))] [] [.nm (.sc (.I ((k+1:Nat):Int))),.au] [3,4,11,12,13,45] [1,2,3,4] hS hE ⟨PX.nm_int (by rw [IntWalk.i64_in _ (by omega)]; omega),trivial⟩ fun a w hS=>?_
   replace hS:=PX.rebox (id:=4) (PX.cells13 (List.replicate (k+1) (-1)++List.replicate (13-(k+1)) 0)) hS rfl ((PX.cells13_over (by simp; omega) hk13 (-1)).trans (congrArg PX.cells13 (set_minus13 hk13)))
   exact ⟨13-(k+1),by omega,k+1,rfl,by omega,trivial,(PX.canon [] _ _ 5 hS hE (by kernel_rfl) (by kernel_rfl) (by kernel_rfl))⟩
  ·skip
   refine wp_exit ?_
   refine hK7 _ _ ?_
   refine wp_seq_k fun K12 hK12=>?_
   refine PX.G [(.e 52 (.J b.params)),(.e 53 (.J 0))] [] 5 [] [] [.au,.au,.au] [3,4,11,12,13,52,53] [1,2,3,4] hS hE trivial fun a w hS=>?_
   refine wp_block ?_
   have hk13:k=13:=by have:=of_decide_eq_false h10; omega
   subst hk13
   replace hS:=PX.rerow (id:=3) ((parK (lastD keep cn b) cn (0)).2.map encR) hS rfl (by simp [parK,encR])
   replace hS:=PX.rebox (id:=4) (PX.cells13 (parK (lastD keep cn b) cn (0)).1) hS rfl (rfl)
   refine wp_loop_ghost (fun m13 a' w'=>∃ v:Nat,m13=b.params.toNat-v∧v≤b.params.toNat∧True∧PX.Sat E 125 [(.e 3 (.ptr 1 0)),(.e 4 (.ptr 2 0)),(.e 11 (.own 3 3 cn)),(.e 12 (.imm 1 ((lastD keep cn b).map encI))),(.e 13 (.ptr 4 0)),(.e 52 (.J b.params)),(.e 53 (.sc (.I (v:Int))))] [(1,.box 62 (encB b)),(2,.box 3 [(.J first)]),(3,.row 78 3 true ((parK (lastD keep cn b) cn (v)).2.map encR)),(4,.box 152 (PX.cells13 (parK (lastD keep cn b) cn (v)).1))] 5 a' w') (b.params.toNat-0) ⟨0,rfl,Nat.zero_le _,trivial,(PX.canon [] _ _ 5 hS hE (by kernel_rfl) (by kernel_rfl) (by kernel_rfl))⟩ ?_
   clear hS; rintro m13 a w ⟨v,hm13,hlev,hIv,hS⟩
   refine PX.G [(.e 54 (.sc (.bool (decide ((v:Int)<b.params)))))] [] 5 [] [] [.au] [3,4,11,12,13,52,53,54] [1,2,3,4] hS hE trivial fun a w hS=>?_
   refine wp_seq_k fun K14 hK14=>?_
   refine PX.cond_s (decide ((v:Int)<b.params)) hS (by kernel_rfl) (fun h15=>?_) (fun h15=>?_)
   ·skip
    refine wp_skip ?_
    refine hK14 _ _ ?_
    refine wp_seq_k fun K16 hK16=>?_
    refine wp_block ?_
    have hv0:(v:Int)<b.params:=of_decide_eq_true h15
    have hvc:v<cn:=by omega
    obtain ⟨hK1,hK2⟩:=parK_len (lastD keep cn b) cn v
    obtain ⟨pl,hpl⟩:=get_of_lt (show v<(parK (lastD keep cn b) cn (v)).2.length by omega)
    obtain ⟨z,hz⟩:=get_of_lt (show v<(lastD keep cn b).length by rw [lastD_len]; exact hvc)
    refine PX.G [(.e 15 (.sc (.I (v:Int))))] [] 5 [] [] [.au,.au] [3,4,11,12,13,15,52,53] [1,2,3,4] hS hE trivial fun a w hS=>?_
    refine PX.G [(.e 57 (.sc (.bool (decide ((v:Int)<8)))))] [] 5 [] [] [.au,.au] [3,4,11,12,13,15,52,53,57] [1,2,3,4] hS hE trivial fun a w hS=>?_
    refine PX.cond_s (decide ((v:Int)<8)) hS (by kernel_rfl) (fun h17=>?_) (fun h17=>?_)
    ·skip
     have hv8:v<8:=by have:=of_decide_eq_true h17; omega
     refine PX.G [] [(3,.row 78 3 true (((parK (lastD keep cn b) cn (v)).2.map encR).set v [(.J 2),(.sc (.I ((v+1:Nat):Int))),(.J 0)]))] 5 [.q ((.sc (.I (IntKind.i64.wrap (1+(v:Int)))):PX.PV)=(.sc (.I ((v+1:Nat):Int)))),.q ((v:Int)=(v:Int)),.q (v<cn),.q (((parK (lastD keep cn b) cn (v)).2.map encR)[v]?=some (encR pl))] [] [.au,.au,.au,.nm (.sc (.I ((v+1:Nat):Int))),.au,.ix v [],.lr (encR pl)] [3,4,11,12,13,15,52,53] [1,2,3,4] hS hE ⟨PX.nm_int (by rw [IntWalk.i64_in _ (by omega)]; omega),rfl,hvc,PX.map_get hpl,trivial⟩ fun a w hS=>?_
     refine PX.G0 [] [(4,.box 152 (PX.over (PX.cells13 (parK (lastD keep cn b) cn (v)).1) (0+(v+1)*1) [(.J z)]))] 5 [.q ((.sc (.I (IntKind.i64.wrap (1+(v:Int)))):PX.PV)=(.sc (.I ((v+1:Nat):Int)))),.q ((v:Int)=(v:Int)),.q (((lastD keep cn b).map encI)[v]?=some (encI z)),.q (((v+1:Nat):Int)=((v+1:Nat):Int)),.q (v+1<13),.q (0+(v+1)*1+1≤(PX.cells13 (parK (lastD keep cn b) cn (v)).1).length)] [] [.au,.nm (.sc (.I ((v+1:Nat):Int))),.au,.au,.ix v (encI z),.au,.ix (v+1) [],.lr []] [3,4,11,12,13,52,53] [1,2,3,4] hS hE ⟨PX.nm_int (by rw [IntWalk.i64_in _ (by omega)]; omega),rfl,PX.map_get hz,rfl,by omega,PX.cells13_len (show v+1<13 by omega),trivial⟩ fun a w hS=>?_
     refine hK16 _ _ ?_
     refine PX.G0 [(.e 53 (.sc (.I ((v+1:Nat):Int))))] [] 5 [.q ((.sc (.I (IntKind.i64.wrap ((v:Int)+1))):PX.PV)=(.sc (.I ((v+1:Nat):Int))))] [] [.nm (.sc (.I ((v+1:Nat):Int))),.au] [3,4,11,12,13,52,53] [1,2,3,4] hS hE ⟨PX.nm_int (by rw [IntWalk.i64_in _ (by omega)]; omega),trivial⟩ fun a w hS=>?_
     replace hS:=PX.rerow (id:=3) ((parK (lastD keep cn b) cn (v+1)).2.map encR) hS rfl (by rw [show (parK (lastD keep cn b) cn (v+1))=parStep (lastD keep cn b) (parK (lastD keep cn b) cn (v)) v from rfl]; unfold parStep; rw [if_pos hv8,List.map_set]; rfl)
     replace hS:=PX.rebox (id:=4) (PX.cells13 (parK (lastD keep cn b) cn (v+1)).1) hS rfl ((PX.cells13_over hK1 (show v+1<13 by omega) z).trans (by rw [show (parK (lastD keep cn b) cn (v+1))=parStep (lastD keep cn b) (parK (lastD keep cn b) cn (v)) v from rfl]; unfold parStep; rw [if_pos hv8,g_some hz]))
     exact ⟨b.params.toNat-(v+1),by omega,v+1,rfl,by omega,trivial,(PX.canon [] _ _ 5 hS hE (by kernel_rfl) (by kernel_rfl) (by kernel_rfl))⟩
    ·skip
     have hv8:¬ v<8:=by have:=of_decide_eq_false h17; omega
     refine PX.G0 [] [(3,.row 78 3 true (((parK (lastD keep cn b) cn (v)).2.map encR).set v [(.J 3),(.sc (.I ((v:Int)-8))),(.J 0)]))] 5 [.q ((.sc (.I (IntKind.i64.wrap ((v:Int)-8))):PX.PV)=(.sc (.I ((v:Int)-8)))),.q ((v:Int)=(v:Int)),.q (v<cn),.q (((parK (lastD keep cn b) cn (v)).2.map encR)[v]?=some (encR pl))] [] [.au,.au,.au,.nm (.sc (.I ((v:Int)-8))),.au,.ix v [],.lr (encR pl)] [3,4,11,12,13,52,53] [1,2,3,4] hS hE ⟨PX.nm_int (by rw [IntWalk.i64_in _ (by omega)]),rfl,hvc,PX.map_get hpl,trivial⟩ fun a w hS=>?_
     refine hK16 _ _ ?_
     refine PX.G0 [(.e 53 (.sc (.I ((v+1:Nat):Int))))] [] 5 [.q ((.sc (.I (IntKind.i64.wrap ((v:Int)+1))):PX.PV)=(.sc (.I ((v+1:Nat):Int))))] [] [.nm (.sc (.I ((v+1:Nat):Int))),.au] [3,4,11,12,13,52,53] [1,2,3,4] hS hE ⟨PX.nm_int (by rw [IntWalk.i64_in _ (by omega)]; omega),trivial⟩ fun a w hS=>?_
     replace hS:=PX.rerow (id:=3) ((parK (lastD keep cn b) cn (v+1)).2.map encR) hS rfl (by rw [show (parK (lastD keep cn b) cn (v+1))=parStep (lastD keep cn b) (parK (lastD keep cn b) cn (v)) v from rfl]; unfold parStep; rw [if_neg hv8,List.map_set]; rfl)
     replace hS:=PX.rebox (id:=4) (PX.cells13 (parK (lastD keep cn b) cn (v+1)).1) hS rfl (by rw [show (parK (lastD keep cn b) cn (v+1))=parStep (lastD keep cn b) (parK (lastD keep cn b) cn (v)) v from rfl]; unfold parStep; rw [if_neg hv8])
     exact ⟨b.params.toNat-(v+1),by omega,v+1,rfl,by omega,trivial,(PX.canon [] _ _ 5 hS hE (by kernel_rfl) (by kernel_rfl) (by kernel_rfl))⟩
   ·skip
    refine wp_exit ?_
    refine hK12 _ _ ?_
    refine PX.G [(.e 16 (.ptr 5 0))] [(5,.box 35 [(.sc (.slice none 0 0))])] 6 [] [] [.au] [3,4,11,12,13,16] [1,2,3,4,5] hS hE trivial fun a w hS=>?_
    refine PX.G [(.e 17 (.fn 106 [] [(.ptr 4 0),(.ptr 5 0),(.ptr 2 0)]))] [] 6 [] [] [.au,.au] [3,4,11,12,13,16,17] [1,2,3,4,5] hS hE trivial fun a w hS=>?_
    refine wp_seq_k fun K18 hK18=>?_
    refine PX.G [(.e 80 (.imm 11 (b.ops.map encO))),(.e 81 (.sc (.I (b.ops.length:Int)))),(.e 82 (.J 0))] [] 6 [.q ((.sc (.I (((b.ops.map encO).length:Nat):Int)):PX.PV)=(.sc (.I (b.ops.length:Int))))] [] [.au,.au,.nm (.sc (.I (b.ops.length:Int))),.au] [4,11,12,13,16,17,80,81,82] [2,3,4,5] hS hE ⟨PX.nm_len (by simp),trivial⟩ fun a w hS=>?_
    refine wp_block ?_
    have hv0:v=b.params.toNat:=by have:=of_decide_eq_false h15; omega
    rw [hv0] at hS
    replace hS:=PX.recell (id:=5) (j:=0) (.own 6 1 0) (PX.newrow 3 1 hS (hE.le (by decide))) rfl rfl rfl (PX.nil_own 6 1)
    refine wp_loop_ghost (fun m19 a' w'=>∃ q:Nat,m19=b.ops.length-q∧q≤b.ops.length∧True∧PX.Sat E 125 [(.e 4 (.ptr 2 0)),(.e 11 (.own 3 3 cn)),(.e 12 (.imm 1 ((lastD keep cn b).map encI))),(.e 13 (.ptr 4 0)),(.e 16 (.ptr 5 0)),(.e 17 (.fn 106 [] [(.ptr 4 0),(.ptr 5 0),(.ptr 2 0)])),(.e 80 (.imm 11 (b.ops.map encO))),(.e 81 (.sc (.I (b.ops.length:Int)))),(.e 82 (.sc (.I (q:Int))))] [(2,.box 3 [(.J first)]),(3,.row 78 3 true ((opsK (lastD keep cn b) cn first b (q)).2.2.map encR)),(4,.box 152 (PX.cells13 (opsK (lastD keep cn b) cn first b (q)).1)),(5,.box 35 [(.own 6 1 ((opsK (lastD keep cn b) cn first b (q)).2.1.length))]),(6,.row 3 1 true ((opsK (lastD keep cn b) cn first b (q)).2.1.map encI))] 7 a' w') (b.ops.length-0) ⟨0,rfl,Nat.zero_le _,trivial,(PX.canon [] _ _ 7 hS hE (by kernel_rfl) (by kernel_rfl) (by kernel_rfl))⟩ ?_
    clear hS; rintro m19 a w ⟨q,hm19,hleq,hIq,hS⟩
    refine PX.G [(.e 83 (.sc (.bool (decide ((q:Int)<(b.ops.length:Int))))))] [] 7 [] [] [.au] [4,11,12,13,16,17,80,81,82,83] [2,3,4,5,6] hS hE trivial fun a w hS=>?_
    refine wp_seq_k fun K20 hK20=>?_
    refine PX.cond_s (decide ((q:Int)<(b.ops.length:Int))) hS (by kernel_rfl) (fun h21=>?_) (fun h21=>?_)
    ·skip
     refine wp_skip ?_
     refine hK20 _ _ ?_
     refine wp_seq_k fun K22 hK22=>?_
     refine wp_block ?_
     have hlty:q<b.ops.length:=by simpa using h21
     obtain ⟨y,hy⟩:=get_of_lt hlty
     obtain ⟨hO1,hO2,hO3⟩:=opsK_len (lastD keep cn b) cn first b q
     refine PX.G [(.e 18 (.sc (.I (q:Int)))),(.e 19 (.ptr 7 0))] [(7,.box 74 (encO y))] 8 [.q ((q:Int)=(q:Int)),.q ((b.ops.map encO)[q]?=some (encO y))] [] [.au,.ix q (encO y),.au,.au,.au,.au] [4,11,12,13,16,17,18,19,80,81,82] [2,3,4,5,6,7] hS hE ⟨rfl,PX.map_get hy,trivial⟩ fun a w hS=>?_
     refine wp_seq_k fun K23 hK23=>?_
     refine PX.G [(.e 90 (.sc (.bool (!(R.defines y.kind)))))] [] 8 [.q (PX.Con Try.prog 104 [(.J y.kind)] [] 8 8 (.sc (.bool (R.defines y.kind))) [])] [] [.au,.au,.cl [] (.sc (.bool (R.defines y.kind))) [] 8,.au] [4,11,12,13,16,17,18,19,80,81,82,90] [2,3,4,5,6,7] hS hE ⟨PX.con_any (con_f104 y.kind),trivial⟩ fun a w hS=>?_
     refine PX.cond_s (!(R.defines y.kind)) hS (by kernel_rfl) (fun h24=>?_) (fun h24=>?_)
     ·skip
      refine wp_exit ?_
      refine hK22 _ _ ?_
      refine PX.G0 [(.e 82 (.sc (.I ((q+1:Nat):Int))))] [] 8 [.q ((.sc (.I (IntKind.i64.wrap ((q:Int)+1))):PX.PV)=(.sc (.I ((q+1:Nat):Int))))] [] [.nm (.sc (.I ((q+1:Nat):Int))),.au] [4,11,12,13,16,17,80,81,82] [2,3,4,5,6] hS hE ⟨PX.nm_int (by rw [IntWalk.i64_in _ (by omega)]; omega),trivial⟩ fun a w hS=>?_
      replace hS:=PX.rebox (id:=4) (PX.cells13 (opsK (lastD keep cn b) cn first b (q+1)).1) hS rfl (by rw [opsK_succ hy]; unfold opP; rw [if_neg (show ¬ R.defines y.kind=true by simpa using h24)])
      replace hS:=PX.rerow (id:=3) ((opsK (lastD keep cn b) cn first b (q+1)).2.2.map encR) hS rfl (by rw [opsK_succ hy]; unfold opP; rw [if_neg (show ¬ R.defines y.kind=true by simpa using h24)])
      replace hS:=PX.rerow (id:=6) ((opsK (lastD keep cn b) cn first b (q+1)).2.1.map encI) hS rfl (by rw [opsK_succ hy]; unfold opP; rw [if_neg (show ¬ R.defines y.kind=true by simpa using h24)])
      replace hS:=PX.recell (id:=5) (j:=0) (.own 6 1 ((opsK (lastD keep cn b) cn first b (q+1)).2.1.length)) hS rfl rfl rfl (fun _ _ _ _ h=>(show (opsK (lastD keep cn b) cn first b (q)).2.1.length=(opsK (lastD keep cn b) cn first b (q+1)).2.1.length from by rw [opsK_succ hy]; unfold opP; rw [if_neg (show ¬ R.defines y.kind=true by simpa using h24)]) ▸ h)
      exact ⟨b.ops.length-(q+1),by omega,q+1,rfl,by omega,trivial,(PX.canon [] _ _ 7 hS hE (by kernel_rfl) (by kernel_rfl) (by kernel_rfl))⟩
     ·skip
      refine wp_skip ?_
      refine hK23 _ _ ?_
      have hdef:R.defines y.kind=true:=by simpa using h24
      have hd:=ho.dst y (List.mem_of_getElem? hy) hdef
      have hsp:=freeD_spec (opsK (lastD keep cn b) cn first b (q)).1 (opsK (lastD keep cn b) cn first b (q)).2.1 first (q:Int)
      have hfl:=freeD_len (opsK (lastD keep cn b) cn first b (q)).1 (opsK (lastD keep cn b) cn first b (q)).2.1 first (q:Int)
      obtain ⟨pl,hpl⟩:=get_of_lt (show y.dst.toNat<(opsK (lastD keep cn b) cn first b (q)).2.2.length by omega)
      obtain ⟨z,hz⟩:=get_of_lt (show y.dst.toNat<(lastD keep cn b).length by rw [lastD_len]; omega)
      refine PX.G [(.e 20 (.ptr 9 0))] [(5,.box 35 [(.own 8 1 ((freeD (opsK (lastD keep cn b) cn first b (q)).1 (opsK (lastD keep cn b) cn first b (q)).2.1 first (q:Int)).2.length))]),(8,.row 3 1 true ((freeD (opsK (lastD keep cn b) cn first b (q)).1 (opsK (lastD keep cn b) cn first b (q)).2.1 first (q:Int)).2.map encI)),(9,.box 78 [(.sc (.I ((freeD (opsK (lastD keep cn b) cn first b (q)).1 (opsK (lastD keep cn b) cn first b (q)).2.1 first (q:Int)).1.1))),(.sc (.I ((freeD (opsK (lastD keep cn b) cn first b (q)).1 (opsK (lastD keep cn b) cn first b (q)).2.1 first (q:Int)).1.2.1))),(.sc (.I ((freeD (opsK (lastD keep cn b) cn first b (q)).1 (opsK (lastD keep cn b) cn first b (q)).2.1 first (q:Int)).1.2.2)))])] 10 [.q (PX.Con Try.prog 106 [(.sc (.I (q:Int))),(.ptr 4 0),(.ptr 5 0),(.ptr 2 0)] [(4,.box 152 (PX.cells13 (opsK (lastD keep cn b) cn first b (q)).1)),(5,.box 35 [(.own 6 1 ((opsK (lastD keep cn b) cn first b (q)).2.1.length))]),(6,.row 3 1 true ((opsK (lastD keep cn b) cn first b (q)).2.1.map encI)),(2,.box 3 [(.J first)])] 8 9 (.agg [(.sc (.I ((freeD (opsK (lastD keep cn b) cn first b (q)).1 (opsK (lastD keep cn b) cn first b (q)).2.1 first (q:Int)).1.1))),(.sc (.I ((freeD (opsK (lastD keep cn b) cn first b (q)).1 (opsK (lastD keep cn b) cn first b (q)).2.1 first (q:Int)).1.2.1))),(.sc (.I ((freeD (opsK (lastD keep cn b) cn first b (q)).1 (opsK (lastD keep cn b) cn first b (q)).2.1 first (q:Int)).1.2.2)))]) [(4,some (.box 152 (PX.cells13 (opsK (lastD keep cn b) cn first b (q)).1))),(5,some (.box 35 [(.own 8 1 ((freeD (opsK (lastD keep cn b) cn first b (q)).1 (opsK (lastD keep cn b) cn first b (q)).2.1 first (q:Int)).2.length))])),(6,none),(2,some (.box 3 [(.J first)])),(8,some (.row 3 1 true ((freeD (opsK (lastD keep cn b) cn first b (q)).1 (opsK (lastD keep cn b) cn first b (q)).2.1 first (q:Int)).2.map encI)))])] [] [.au,.au,.cl [4,5,6,2] (.agg [(.sc (.I ((freeD (opsK (lastD keep cn b) cn first b (q)).1 (opsK (lastD keep cn b) cn first b (q)).2.1 first (q:Int)).1.1))),(.sc (.I ((freeD (opsK (lastD keep cn b) cn first b (q)).1 (opsK (lastD keep cn b) cn first b (q)).2.1 first (q:Int)).1.2.1))),(.sc (.I ((freeD (opsK (lastD keep cn b) cn first b (q)).1 (opsK (lastD keep cn b) cn first b (q)).2.1 first (q:Int)).1.2.2)))]) [(4,some (.box 152 (PX.cells13 (opsK (lastD keep cn b) cn first b (q)).1))),(5,some (.box 35 [(.own 8 1 ((freeD (opsK (lastD keep cn b) cn first b (q)).1 (opsK (lastD keep cn b) cn first b (q)).2.1 first (q:Int)).2.length))])),(6,none),(2,some (.box 3 [(.J first)])),(8,some (.row 3 1 true ((freeD (opsK (lastD keep cn b) cn first b (q)).1 (opsK (lastD keep cn b) cn first b (q)).2.1 first (q:Int)).2.map encI)))] 9,.au,.au] [4,11,12,13,16,17,19,20,80,81,82] [2,3,4,5,7,8,9] hS hE ⟨PX.con_as [(4,1),(5,2),(6,3),(2,4),(8,5)] [(1,4),(2,5),(3,6),(4,2),(5,8)] (con_f106 (opsK (lastD keep cn b) cn first b (q)).1 (opsK (lastD keep cn b) cn first b (q)).2.1 first (q:Int) hO1 (by omega) hfirst) (by kernel_rfl) (by kernel_rfl) (by kernel_rfl) (by kernel_rfl) (by kernel_rfl) (by kernel_rfl),trivial⟩ fun a w hS=>?_
      refine PX.G [] [(3,.row 78 3 true (((opsK (lastD keep cn b) cn first b (q)).2.2.map encR).set y.dst.toNat [(.sc (.I ((freeD (opsK (lastD keep cn b) cn first b (q)).1 (opsK (lastD keep cn b) cn first b (q)).2.1 first (q:Int)).1.1))),(.sc (.I ((freeD (opsK (lastD keep cn b) cn first b (q)).1 (opsK (lastD keep cn b) cn first b (q)).2.1 first (q:Int)).1.2.1))),(.sc (.I ((freeD (opsK (lastD keep cn b) cn first b (q)).1 (opsK (lastD keep cn b) cn first b (q)).2.1 first (q:Int)).1.2.2)))]))] 10 [.q (y.dst=(y.dst.toNat:Int)),.q (y.dst.toNat<cn),.q (((opsK (lastD keep cn b) cn first b (q)).2.2.map encR)[y.dst.toNat]?=some (encR pl))] [] [.au,.au,.au,.au,.ix y.dst.toNat [],.lr (encR pl)] [4,11,12,13,16,17,19,20,80,81,82] [2,3,4,5,7,8,9] hS hE ⟨by omega,by omega,PX.map_get hpl,trivial⟩ fun a w hS=>?_
      refine PX.G [(.e 101 (.sc (.bool (((freeD (opsK (lastD keep cn b) cn first b (q)).1 (opsK (lastD keep cn b) cn first b (q)).2.1 first (q:Int)).1.1)==2))))] [] 10 [] [] [.au,.au,.au] [4,11,12,13,16,17,19,20,80,81,82,101] [2,3,4,5,7,8,9] hS hE trivial fun a w hS=>?_
      refine PX.cond_s (((freeD (opsK (lastD keep cn b) cn first b (q)).1 (opsK (lastD keep cn b) cn first b (q)).2.1 first (q:Int)).1.1)==2) hS (by kernel_rfl) (fun h25=>?_) (fun h25=>?_)
      ·skip
       have h2:(freeD (opsK (lastD keep cn b) cn first b (q)).1 (opsK (lastD keep cn b) cn first b (q)).2.1 first (q:Int)).1.1=2:=by simpa using h25
       have hr2:1≤(freeD (opsK (lastD keep cn b) cn first b (q)).1 (opsK (lastD keep cn b) cn first b (q)).2.1 first (q:Int)).1.2.1∧(freeD (opsK (lastD keep cn b) cn first b (q)).1 (opsK (lastD keep cn b) cn first b (q)).2.1 first (q:Int)).1.2.1≤12:=by rcases hsp with q1 | q1 <;> omega
       refine PX.D0 [] [(4,.box 152 (PX.over (PX.cells13 (opsK (lastD keep cn b) cn first b (q)).1) (0+(((freeD (opsK (lastD keep cn b) cn first b (q)).1 (opsK (lastD keep cn b) cn first b (q)).2.1 first (q:Int)).1.2.1).toNat)*1) [(.J z)]))] 10 [.q (y.dst=(y.dst.toNat:Int)),.q (((lastD keep cn b).map encI)[y.dst.toNat]?=some (encI z)),.q ((freeD (opsK (lastD keep cn b) cn first b (q)).1 (opsK (lastD keep cn b) cn first b (q)).2.1 first (q:Int)).1.2.1=((((freeD (opsK (lastD keep cn b) cn first b (q)).1 (opsK (lastD keep cn b) cn first b (q)).2.1 first (q:Int)).1.2.1).toNat:Nat):Int)),.q (((freeD (opsK (lastD keep cn b) cn first b (q)).1 (opsK (lastD keep cn b) cn first b (q)).2.1 first (q:Int)).1.2.1).toNat<13),.q (0+(((freeD (opsK (lastD keep cn b) cn first b (q)).1 (opsK (lastD keep cn b) cn first b (q)).2.1 first (q:Int)).1.2.1).toNat)*1+1≤(PX.cells13 (opsK (lastD keep cn b) cn first b (q)).1).length)] [] [.au,.au,.au,.au,.au,.ix y.dst.toNat (encI z),.au,.ix (((freeD (opsK (lastD keep cn b) cn first b (q)).1 (opsK (lastD keep cn b) cn first b (q)).2.1 first (q:Int)).1.2.1).toNat) [],.lr []] [4,11,12,13,16,17,80,81,82] [2,3,4,5,8] hS mixed hE ⟨by omega,PX.map_get hz,by omega,by omega,PX.cells13_len (show ((freeD (opsK (lastD keep cn b) cn first b (q)).1 (opsK (lastD keep cn b) cn first b (q)).2.1 first (q:Int)).1.2.1).toNat<13 by omega),trivial⟩ fun a w hS=>?_
       refine hK22 _ _ ?_
       refine PX.G0 [(.e 82 (.sc (.I ((q+1:Nat):Int))))] [] 10 [.q ((.sc (.I (IntKind.i64.wrap ((q:Int)+1))):PX.PV)=(.sc (.I ((q+1:Nat):Int))))] [] [.nm (.sc (.I ((q+1:Nat):Int))),.au] [4,11,12,13,16,17,80,81,82] [2,3,4,5,8] hS hE ⟨PX.nm_int (by rw [IntWalk.i64_in _ (by omega)]; omega),trivial⟩ fun a w hS=>?_
       replace hS:=PX.rebox (id:=4) (PX.cells13 (opsK (lastD keep cn b) cn first b (q+1)).1) hS rfl ((PX.cells13_over hO1 (show ((freeD (opsK (lastD keep cn b) cn first b (q)).1 (opsK (lastD keep cn b) cn first b (q)).2.1 first (q:Int)).1.2.1).toNat<13 by omega) z).trans (by rw [opsK_succ hy]; unfold opP; rw [if_pos hdef,if_pos h2]; rw [g_some hz]))
       replace hS:=PX.rerow (id:=8) ((opsK (lastD keep cn b) cn first b (q+1)).2.1.map encI) hS rfl (by rw [opsK_succ hy]; unfold opP; rw [if_pos hdef,if_pos h2])
       replace hS:=PX.rerow (id:=3) ((opsK (lastD keep cn b) cn first b (q+1)).2.2.map encR) hS rfl (by rw [opsK_succ hy]; unfold opP; rw [if_pos hdef,if_pos h2]; rw [List.map_set]; rfl)
       replace hS:=PX.recell (id:=5) (j:=0) (.own 8 1 ((opsK (lastD keep cn b) cn first b (q+1)).2.1.length)) hS rfl rfl rfl (fun _ _ _ _ h=>(show (freeD (opsK (lastD keep cn b) cn first b (q)).1 (opsK (lastD keep cn b) cn first b (q)).2.1 first (q:Int)).2.length=(opsK (lastD keep cn b) cn first b (q+1)).2.1.length from by rw [opsK_succ hy]; unfold opP; rw [if_pos hdef,if_pos h2]) ▸ h)
       exact ⟨b.ops.length-(q+1),by omega,q+1,rfl,by omega,trivial,(PX.canon [(6,8)] _ _ 7 hS hE (by kernel_rfl) (by kernel_rfl) (by kernel_rfl))⟩
      ·skip
       have h2:¬ (freeD (opsK (lastD keep cn b) cn first b (q)).1 (opsK (lastD keep cn b) cn first b (q)).2.1 first (q:Int)).1.1=2:=by simpa using h25
       have hr3:first≤(freeD (opsK (lastD keep cn b) cn first b (q)).1 (opsK (lastD keep cn b) cn first b (q)).2.1 first (q:Int)).1.2.1∧(freeD (opsK (lastD keep cn b) cn first b (q)).1 (opsK (lastD keep cn b) cn first b (q)).2.1 first (q:Int)).1.2.1<first+((freeD (opsK (lastD keep cn b) cn first b (q)).1 (opsK (lastD keep cn b) cn first b (q)).2.1 first (q:Int)).2.length:Int):=by rcases hsp with q1 | q1 <;> omega
       obtain ⟨z3,hz3⟩:=get_of_lt (show ((freeD (opsK (lastD keep cn b) cn first b (q)).1 (opsK (lastD keep cn b) cn first b (q)).2.1 first (q:Int)).1.2.1-first).toNat<((freeD (opsK (lastD keep cn b) cn first b (q)).1 (opsK (lastD keep cn b) cn first b (q)).2.1 first (q:Int)).2).length by omega)
       refine PX.D0 [] [(8,.row 3 1 true (((freeD (opsK (lastD keep cn b) cn first b (q)).1 (opsK (lastD keep cn b) cn first b (q)).2.1 first (q:Int)).2.map encI).set (((freeD (opsK (lastD keep cn b) cn first b (q)).1 (opsK (lastD keep cn b) cn first b (q)).2.1 first (q:Int)).1.2.1-first).toNat) [(.J z)]))] 10 [.q ((.sc (.I (IntKind.i64.wrap (((freeD (opsK (lastD keep cn b) cn first b (q)).1 (opsK (lastD keep cn b) cn first b (q)).2.1 first (q:Int)).1.2.1)-first))):PX.PV)=(.sc (.I ((freeD (opsK (lastD keep cn b) cn first b (q)).1 (opsK (lastD keep cn b) cn first b (q)).2.1 first (q:Int)).1.2.1-first)))),.q (y.dst=(y.dst.toNat:Int)),.q (((lastD keep cn b).map encI)[y.dst.toNat]?=some (encI z)),.q (((freeD (opsK (lastD keep cn b) cn first b (q)).1 (opsK (lastD keep cn b) cn first b (q)).2.1 first (q:Int)).1.2.1-first)=((((freeD (opsK (lastD keep cn b) cn first b (q)).1 (opsK (lastD keep cn b) cn first b (q)).2.1 first (q:Int)).1.2.1-first).toNat:Nat):Int)),.q (((freeD (opsK (lastD keep cn b) cn first b (q)).1 (opsK (lastD keep cn b) cn first b (q)).2.1 first (q:Int)).1.2.1-first).toNat<(freeD (opsK (lastD keep cn b) cn first b (q)).1 (opsK (lastD keep cn b) cn first b (q)).2.1 first (q:Int)).2.length),.q (((freeD (opsK (lastD keep cn b) cn first b (q)).1 (opsK (lastD keep cn b) cn first b (q)).2.1 first (q:Int)).2.map encI)[((freeD (opsK (lastD keep cn b) cn first b (q)).1 (opsK (lastD keep cn b) cn first b (q)).2.1 first (q:Int)).1.2.1-first).toNat]?=some (encI z3))] [] [.au,.au,.au,.au,.nm (.sc (.I ((freeD (opsK (lastD keep cn b) cn first b (q)).1 (opsK (lastD keep cn b) cn first b (q)).2.1 first (q:Int)).1.2.1-first))),.au,.au,.au,.ix y.dst.toNat (encI z),.au,.ix (((freeD (opsK (lastD keep cn b) cn first b (q)).1 (opsK (lastD keep cn b) cn first b (q)).2.1 first (q:Int)).1.2.1-first).toNat) [],.lr (encI z3)] [4,11,12,13,16,17,80,81,82] [2,3,4,5,8] hS mixed hE ⟨PX.nm_int (by rw [IntWalk.i64_in _ (by omega)]),by omega,PX.map_get hz,by omega,by omega,PX.map_get hz3,trivial⟩ fun a w hS=>?_
       refine hK22 _ _ ?_
       refine PX.G0 [(.e 82 (.sc (.I ((q+1:Nat):Int))))] [] 10 [.q ((.sc (.I (IntKind.i64.wrap ((q:Int)+1))):PX.PV)=(.sc (.I ((q+1:Nat):Int))))] [] [.nm (.sc (.I ((q+1:Nat):Int))),.au] [4,11,12,13,16,17,80,81,82] [2,3,4,5,8] hS hE ⟨PX.nm_int (by rw [IntWalk.i64_in _ (by omega)]; omega),trivial⟩ fun a w hS=>?_
       replace hS:=PX.rebox (id:=4) (PX.cells13 (opsK (lastD keep cn b) cn first b (q+1)).1) hS rfl (by rw [opsK_succ hy]; unfold opP; rw [if_pos hdef,if_neg h2])
       replace hS:=PX.rerow (id:=8) ((opsK (lastD keep cn b) cn first b (q+1)).2.1.map encI) hS rfl (by rw [opsK_succ hy]; unfold opP; rw [if_pos hdef,if_neg h2]; rw [g_some hz,List.map_set]; rfl)
       replace hS:=PX.rerow (id:=3) ((opsK (lastD keep cn b) cn first b (q+1)).2.2.map encR) hS rfl (by rw [opsK_succ hy]; unfold opP; rw [if_pos hdef,if_neg h2]; rw [List.map_set]; rfl)
       replace hS:=PX.recell (id:=5) (j:=0) (.own 8 1 ((opsK (lastD keep cn b) cn first b (q+1)).2.1.length)) hS rfl rfl rfl (fun _ _ _ _ h=>(show (freeD (opsK (lastD keep cn b) cn first b (q)).1 (opsK (lastD keep cn b) cn first b (q)).2.1 first (q:Int)).2.length=(opsK (lastD keep cn b) cn first b (q+1)).2.1.length from by rw [opsK_succ hy]; unfold opP; rw [if_pos hdef,if_neg h2]; rw [List.length_set]) ▸ h)
       exact ⟨b.ops.length-(q+1),by omega,q+1,rfl,by omega,trivial,(PX.canon [(6,8)] _ _ 7 hS hE (by kernel_rfl) (by kernel_rfl) (by kernel_rfl))⟩
    ·skip
     refine wp_exit ?_
     refine hK18 _ _ ?_
     have hq0:q=b.ops.length:=by have:=le_of_dec h21; omega
     rw [hq0] at hS
     refine PX.D [(.e 6 (.own 3 3 cn)),(.e 7 (.sc (.I (((opsK (lastD keep cn b) cn first b (b.ops.length)).2.1.length:Nat):Int))))] [] 7 [] [] [.au,.au,.au,.au,.au] [6,7] [3] hS mixed hE trivial fun a w hS=>?_
     have hO3:=(opsK_len (lastD keep cn b) cn first b b.ops.length).2.2
     replace hS:=PX.sl [6,7] hS
     replace hS:=PX.fz 3 [(.e 6 (.imm 3 ((opsK (lastD keep cn b) cn first b (b.ops.length)).2.2.map encR)))] [] [6,7] [] [.b (PX.lenIs cn ((opsK (lastD keep cn b) cn first b (b.ops.length)).2.2.map encR))] hS ⟨(by simp [PX.lenIs,hO3]),trivial⟩
     refine wp_ret ?_
     try simp only [Exit.then,Exit.inBlock,Nat.reduceEqDiff,↓reduceIte]
     rw [show (.tup [.imm 3 ((blkPl keep first cn b).1.map encR),.sc (.I (((blkPl keep first cn b).2:Nat):Int))])=((.tup [(.imm 3 ((opsK (lastD keep cn b) cn first b (b.ops.length)).2.2.map encR)),(.sc (.I (((opsK (lastD keep cn b) cn first b (b.ops.length)).2.1.length:Nat):Int)))]):PX.PV) from rfl]
     exact PX.ret_s hS hE (by kernel_rfl) (by kernel_rfl) (by kernel_rfl) (.inl rfl)
end Go.Proofs.Ytlkcidmmpeebeaa
