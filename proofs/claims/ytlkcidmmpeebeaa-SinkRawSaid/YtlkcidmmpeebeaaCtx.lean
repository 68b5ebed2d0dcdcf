/- Proved: edges,rightContexts -/
import Derived.Test.YtlkcidmmpeebeaaTail1
import Derived.Test.YtlkcidmmpeebeaaMaps
set_option linter.unusedVariables false
set_option linter.unusedSimpArgs false
namespace Go.Proofs.Ytlkcidmmpeebeaa
open Go.RowKit
set_option maxRecDepth 100000
theorem ctx1_eq (k:Nat) (y:Int × Int × Int):P.ctx1 k y=!((!P.within y.2.2 7)||(decide ((0:Int)<(k:Int))&&((!P.within y.1 ((k:Int)-1))||(!P.within y.2.1 9999)))):=by
 unfold P.ctx1
 have e:decide ((0:Int)<(k:Int))=decide (0<k):=by rw [Bool.eq_iff_iff]; simp
 rw [e]
 cases P.within y.2.2 7 <;> simp

set_option maxHeartbeats 400000 in
theorem edges_any (p0 p1:Int) (x0 x1:List Int) (U0 U1 W0 W1:Option Addr) (a0 a1 b0 b1:Nat) (w:World) (hu0:IntsAt w (.slice U0 x0.length a0) x0) (hu1:IntsAt w (.slice U1 x1.length a1) x1) (hw0:IntsAt w (.slice W0 x0.length b0) x0) (hw1:IntsAt w (.slice W1 x1.length b1) x1):Calls Try.prog 55 #[(.agg #[.I p0,.slice U0 x0.length a0,.I p1,.slice U1 x1.length a1]),(.agg #[.I p0,.slice W0 x0.length b0,.I p1,.slice W1 x1.length b1])] w fun e w'=>e=.returned (.bool (true))∧Below w.heap.size w w':=by
 have mix:=mixed
 have hB:Below w.heap.size w w:=Below.refl _ _
 have hM:SX.Cells w []:=SX.cells_nil
 refine SX.enter [(.agg #[.I p0,.slice U0 x0.length a0,.I p1,.slice U1 x1.length a1]),(.agg #[.I p0,.slice W0 x0.length b0,.I p1,.slice W1 x1.length b1])] 39 Try.func55 rfl rfl (by kernel_rfl) ?_
 intro a hR
 refine wp_seq_k fun K1 hK1=>?_
 refine SX.region_l ?_
 obtain ⟨n5,hn5⟩:∃ n,w.heap.size=n:=⟨_,rfl⟩
 have hzn5:w.heap.size≤n5:=by have:=hB.size; omega
 refine SX.list_box 0 n5 [(.I p0),(.slice U0 x0.length a0),(.I p1),(.slice U1 x1.length a1)] 58 ((.e 2 (.P n5))::[(.e 0 (.agg #[.I p0,.slice U0 x0.length a0,.I p1,.slice U1 x1.length a1])),(.e 1 (.agg #[.I p0,.slice W0 x0.length b0,.I p1,.slice W1 x1.length b1]))]) [(⟨n5,0,none⟩,(.I p0)),(⟨n5,1,none⟩,(.slice U0 x0.length a0)),(⟨n5,2,none⟩,(.I p1)),(⟨n5,3,none⟩,(.slice U1 x1.length a1))] hR hM hn5 (by kernel_rfl) (by kernel_rfl) ?_
 clear hR hM; intro a2 w3 hR hb4 hM hkn5 hln5
 replace hB:=hB.tr hb4
 replace hR:SX.RSt 39 [] [(.e 1 (.agg #[.I p0,.slice W0 x0.length b0,.I p1,.slice W1 x1.length b1])),(.e 2 (.P n5))] a2:=hR.keep (ts:=[1,2]) (by kernel_rfl)
 obtain ⟨n9,hn9⟩:∃ n,w3.heap.size=n:=⟨_,rfl⟩
 have hzn9:w.heap.size≤n9:=by have:=hB.size; omega
 have qn5n9:n5<n9:=by have:=(Array.getElem?_eq_some_iff.1 hkn5).1; omega
 refine SX.list_box 1 n9 [(.I p0),(.slice W0 x0.length b0),(.I p1),(.slice W1 x1.length b1)] 58 ((.e 3 (.P n9))::[(.e 1 (.agg #[.I p0,.slice W0 x0.length b0,.I p1,.slice W1 x1.length b1])),(.e 2 (.P n5))]) [(⟨n9,0,none⟩,(.I p0)),(⟨n9,1,none⟩,(.slice W0 x0.length b0)),(⟨n9,2,none⟩,(.I p1)),(⟨n9,3,none⟩,(.slice W1 x1.length b1)),(⟨n5,0,none⟩,(.I p0)),(⟨n5,1,none⟩,(.slice U0 x0.length a0)),(⟨n5,2,none⟩,(.I p1)),(⟨n5,3,none⟩,(.slice U1 x1.length a1))] hR hM hn9 (by kernel_rfl) (by kernel_rfl) ?_
 clear hR hM; intro a6 w7 hR hb8 hM hkn9 hln9
 replace hB:=hB.tr hb8
 replace hkn5:=SX.blk_below hkn5 hb8
 replace hR:SX.RSt 39 [] [(.e 2 (.P n5)),(.e 3 (.P n9))] a6:=hR.keep (ts:=[2,3]) (by kernel_rfl)
 refine SX.list_q0 (κ:=[]) 2 1 [.ld []] [2,3] [(.e 2 (.P n5)),(.e 3 (.P n9))] hR hM (by kernel_rfl) (by kernel_rfl) ?_
 clear hR hM; intro a10 w11 hR hb12 hM
 replace hB:=hB.tr hb12
 replace hkn5:=SX.blk_below hkn5 hb12
 replace hkn9:=SX.blk_below hkn9 hb12
 refine SX.list_end 3 (by kernel_rfl) ?_
 refine hK1 _ _ ?_
 refine wp_seq_k fun K13 hK13=>?_
 refine SX.region_q [(7,(p0==p0)),(16,((p0==p0)&&(p1==p1))),(25,(((p0==p0)&&(p1==p1))&&true))] [.ld [],.ld [],.ld [4],.ld [],.ld [],.ld [0],.ld [],.ld [],.ld [],.ld [],.ld [6],.ld [],.ld [],.ld [2],.ld [],.pk,.ld [],.ld [],.ld [],.ld [5],.ld [],.ld [],.ld [1],.cl (.bool true),.pk,.ld [],.ld [],.ld [],.ld [7],.ld [],.ld [],.ld [3],.cl (.bool true),.pk,.ld []] [4] [(.e 4 (.bool ((((p0==p0)&&(p1==p1))&&true)&&true)))] [] [] [([(16,true)],28,#[(.slice U0 x0.length a0),(.slice W0 x0.length b0)],(.bool true)),([(25,true)],28,#[(.slice U1 x1.length a1),(.slice W1 x1.length b1)],(.bool true))] [] hR hM mix (by kernel_rfl) (by kernel_rfl) (by kernel_rfl) (by kernel_rfl) trivial trivial (fun w' hb' hM'=>trivial) (fun w' hb' hM'=>⟨fun hg=>listI_any _ _ _ _ (hu0.below (hB.tr hb')) (hw0.below (hB.tr hb')),fun hg=>listI_any _ _ _ _ (hu1.below (hB.tr hb')) (hw1.below (hB.tr hb')),trivial⟩) ?_
 clear hR hM; intro a14 w15 hR hb16 hM
 replace hB:=hB.tr hb16
 replace hkn5:=SX.blk_below hkn5 hb16
 replace hkn9:=SX.blk_below hkn9 hb16
 refine hK13 _ _ ?_
 refine wp_ret ?_
 try simp only [Exit.then,Exit.inBlock,Nat.reduceEqDiff,↓reduceIte]
 refine SX.ret_ 4 (.bool ((((p0==p0)&&(p1==p1))&&true)&&true)) Try.results55 hR (by kernel_rfl) ?_
 clear hR hM mix hK1 hzn5 hb4 hkn5 hln5 hn5 hzn9 qn5n9 hb8 hkn9 hln9 hn9 hb12 hK13 hb16
 exact ⟨ret_bool (by simp),hB⟩

set_option maxHeartbeats 400000 in
theorem rightContexts_cons (u:Value) (l:List (Int × Int × Int)) (w:World) (hl:RecsAt w u l) (hne:0<l.length):Calls Try.prog 82 #[u] w fun e w'=>e=.returned (.bool (P.rightContexts l))∧Below w.heap.size w w':=by
 have hl0:=hl
 obtain ⟨Al,kl,rfl,sl⟩:=hl.shape
 unfold Shape at sl
 have mix:=mixed
 have hB:Below w.heap.size w w:=Below.refl _ _
 have hM:SX.Cells w []:=SX.cells_nil
 refine SX.enter [(.slice Al l.length kl)] 50 Try.func82 rfl rfl (by kernel_rfl) ?_
 intro a hR
 refine wp_seq_k fun K1 hK1=>?_
 refine SX.region_q0 [.ld []] [0] [(.e 0 (.slice Al l.length kl))] hR hM mix (by kernel_rfl) (by kernel_rfl) (by kernel_rfl) (by kernel_rfl) ?_
 clear hR hM; intro a2 w3 hR hb4 hM
 replace hB:=hB.tr hb4
 refine hK1 _ _ ?_
 refine wp_seq_k fun K5 hK5=>?_
 refine wp_seq_k fun K6 hK6=>?_
 obtain ⟨x,hx⟩:=get_of_lt (l:=l) (k:=0) hne
 obtain ⟨rbx,rox,hAx,hix,cr0x,cr1x,cr2x⟩:=hl0.elem hx
 subst hAx
 have hox:rbx<w.heap.size:=World.block_lt_of_cell? w _ cr0x
 replace hM:=(SX.cells_add (cell_below hB cr0x) (SX.cells_add (cell_below hB cr1x) (SX.cells_add (cell_below hB cr2x) hM)))
 refine SX.region_q [(3,(((l.length:Nat):Int)==0)),(10,((((l.length:Nat):Int)==0)||(x.1 != (-1))))] [.ld [],.ld [],.ld [],.ld [],.ld [],.ix ⟨rbx,rox+0*3,none⟩,.ld [],.ld [0],.ld [],.pk,.ld [],.ld [],.ix ⟨rbx,rox+0*3,none⟩,.ld [],.ld [1],.ld [],.pk] [0,21] [(.e 0 (.slice (some ⟨rbx,rox,none⟩) l.length kl)),(.e 21 (.bool (((((l.length:Nat):Int)==0)||(x.1 != (-1)))||(x.2.1 != (-1)))))] [([(3,false)],⟨rbx,rox,none⟩,l.length,0,3,⟨rbx,rox+0*3,none⟩),([(10,false)],⟨rbx,rox,none⟩,l.length,0,3,⟨rbx,rox+0*3,none⟩)] [] [] [] hR hM mix (by kernel_rfl) (by kernel_rfl) (by kernel_rfl) (by kernel_rfl) ⟨fun hg=>SX.ix_ok (k:=0) hne,fun hg=>SX.ix_ok (k:=0) hne,trivial⟩ trivial (fun w' hb' hM'=>trivial) (fun w' hb' hM'=>trivial) ?_
 clear hR hM; intro a7 w8 hR hb9 hM
 replace hB:=hB.tr hb9
 refine hK6 _ _ ?_
 refine SX.cond_ (((((l.length:Nat):Int)==0)||(x.1 != (-1)))||(x.2.1 != (-1))) hR (by kernel_rfl) (fun h10=>?_) (fun h10=>?_)
 ·skip
  refine wp_seq_k fun K11 hK11=>?_
  refine SX.region_q0 [.ld []] [2] [(.e 2 (.bool false))] hR hM mix (by kernel_rfl) (by kernel_rfl) (by kernel_rfl) (by kernel_rfl) ?_
  clear hR hM; intro a12 w13 hR hb14 hM
  replace hB:=hB.tr hb14
  refine hK11 _ _ ?_
  refine wp_ret ?_
  try simp only [Exit.then,Exit.inBlock,Nat.reduceEqDiff,↓reduceIte]
  refine SX.ret_ 2 (.bool false) Try.results82 hR (by kernel_rfl) ?_
  clear hR hM mix hK1 hb4 hK5 hK6 hb9 hK11 hb14
  refine ⟨ret_bool ?_,hB⟩
  unfold P.rightContexts
  rw [hx]
  have hl1:((l.length:Int)==0)=false:=by rw [beq_eq_false_iff_ne]; omega
  rw [hl1,Bool.false_or] at h10
  simp only [h10,Bool.false_eq_true,↓reduceIte]
 ·skip
  refine wp_skip ?_
  refine hK5 _ _ ?_
  refine wp_seq_k fun K15 hK15=>?_
  refine wp_seq_k fun K16 hK16=>?_
  refine SX.region_q0 [.ld [],.ld [],.ld []] [22,23,24] [(.e 22 (.slice (some ⟨rbx,rox,none⟩) l.length kl)),(.e 23 (.I ((l.length:Nat):Int))),(.e 24 (.I 0))] hR hM mix (by kernel_rfl) (by kernel_rfl) (by kernel_rfl) (by kernel_rfl) ?_
  clear hR hM; intro a17 w18 hR hb19 hM
  replace hB:=hB.tr hb19
  refine hK16 _ _ ?_
  refine wp_block ?_
  refine wp_loop_ghost (fun m22 a' w'=>∃ k:Nat,m22=l.length-k∧k≤l.length∧SX.RSt 50 [] [(.e 22 (.slice (some ⟨rbx,rox,none⟩) l.length kl)),(.e 23 (.I ((l.length:Nat):Int))),(.e 24 (.I ((k:Nat):Int)))] a'∧Below w.heap.size w w'∧SX.Cells w' [(⟨rbx,rox+0*3,none⟩,(.I x.1)),(⟨rbx,rox+0*3+1,none⟩,(.I x.2.1)),(⟨rbx,rox+0*3+2,none⟩,(.I x.2.2))]∧Upto l P.ctx1 k) (l.length-0) ⟨0,rfl,Nat.zero_le _,hR.keep (ts:=[22,23,24]) (by kernel_rfl),hB,hM,Upto.zero⟩ ?_
  clear hR hM hB
  rintro m22 a20 w21 ⟨k,hm22,hlek,hR,hB,hM,hIk⟩
  refine wp_seq_k fun K23 hK23=>?_
  refine SX.region_q0 [.ld []] [22,23,24,25] [(.e 22 (.slice (some ⟨rbx,rox,none⟩) l.length kl)),(.e 23 (.I ((l.length:Nat):Int))),(.e 24 (.I ((k:Nat):Int))),(.e 25 (.bool (decide (((k:Nat):Int)<((l.length:Nat):Int)))))] hR hM mix (by kernel_rfl) (by kernel_rfl) (by kernel_rfl) (by kernel_rfl) ?_
  clear hR hM; intro a24 w25 hR hb26 hM
  replace hB:=hB.tr hb26
  refine hK23 _ _ ?_
  refine wp_seq_k fun K27 hK27=>?_
  refine SX.cond_ (decide (((k:Nat):Int)<((l.length:Nat):Int))) hR (by kernel_rfl) (fun h28=>?_) (fun h28=>?_)
  ·skip
   refine wp_skip ?_
   refine hK27 _ _ ?_
   refine wp_seq_k fun K29 hK29=>?_
   refine wp_block ?_
   refine wp_seq_k fun K30 hK30=>?_
   have hlt:k<l.length:=lt_of_dec h28
   obtain ⟨y,hy⟩:=get_of_lt hlt
   obtain ⟨rby,roy,hAy,hiy,cr0y,cr1y,cr2y⟩:=hl0.elem hy
   obtain ⟨rfl,rfl⟩:rbx=rby∧rox=roy:=by simpa using hAy
   replace hM:=(SX.cells_add (cell_below hB cr0y) (SX.cells_add (cell_below hB cr1y) (SX.cells_add (cell_below hB cr2y) hM)))
   refine SX.region_l ?_
   refine SX.list_q (κ:=[]) 0 3 [.ld [],.ix ⟨rbx,rox+k*3,none⟩,.ld [0,1,2]] [22,23,24,26,28] [(.e 22 (.slice (some ⟨rbx,rox,none⟩) l.length kl)),(.e 23 (.I ((l.length:Nat):Int))),(.e 24 (.I ((k:Nat):Int))),(.e 26 (.I ((k:Nat):Int))),(.e 28 (.agg #[.I y.1,.I y.2.1,.I y.2.2]))] [([],⟨rbx,rox,none⟩,l.length,((k:Nat):Int),3,⟨rbx,rox+k*3,none⟩)] [] [] [] hR hM (by kernel_rfl) (by kernel_rfl) ⟨fun hg=>SX.ix_ok (by omega),trivial⟩ trivial (fun w' hb' hM'=>trivial) (fun w' hb' hM'=>trivial) ?_
   clear hR hM; intro a31 w32 hR hb33 hM
   replace hB:=hB.tr hb33
   obtain ⟨n37,hn37⟩:∃ n,w32.heap.size=n:=⟨_,rfl⟩
   have hzn37:w.heap.size≤n37:=by have:=hB.size; omega
   refine SX.list_alloc 3 n37 [(.I 0),(.I 0),(.I 0)] 99 ((.e 4 (.P n37))::[(.e 22 (.slice (some ⟨rbx,rox,none⟩) l.length kl)),(.e 23 (.I ((l.length:Nat):Int))),(.e 24 (.I ((k:Nat):Int))),(.e 26 (.I ((k:Nat):Int))),(.e 28 (.agg #[.I y.1,.I y.2.1,.I y.2.2]))]) hR hM hn37 (by kernel_rfl) ?_
   clear hR hM; intro a34 w35 hR hb36 hM hkn37 hln37 hnen37
   replace hB:=hB.tr hb36
   replace hR:SX.RSt 50 [] [(.e 4 (.P n37)),(.e 22 (.slice (some ⟨rbx,rox,none⟩) l.length kl)),(.e 23 (.I ((l.length:Nat):Int))),(.e 24 (.I ((k:Nat):Int))),(.e 26 (.I ((k:Nat):Int))),(.e 28 (.agg #[.I y.1,.I y.2.1,.I y.2.2]))] a34:=hR.keep (ts:=[4,22,23,24,26,28]) (by kernel_rfl)
   refine SX.list_q0 (κ:=[]) 4 1 [.ld []] [3,4,22,23,24,28] [(.e 3 (.I ((k:Nat):Int))),(.e 4 (.P n37)),(.e 22 (.slice (some ⟨rbx,rox,none⟩) l.length kl)),(.e 23 (.I ((l.length:Nat):Int))),(.e 24 (.I ((k:Nat):Int))),(.e 28 (.agg #[.I y.1,.I y.2.1,.I y.2.2]))] hR hM (by kernel_rfl) (by kernel_rfl) ?_
   clear hR hM; intro a38 w39 hR hb40 hM
   replace hB:=hB.tr hb40
   replace hkn37:=SX.blk_below hkn37 hb40
   refine SX.list_store 5 [(0,(.I y.1)),(1,(.I y.2.1)),(2,(.I y.2.2))] [(.I y.1),(.I y.2.1),(.I y.2.2)] [(⟨rbx,rox+k*3,none⟩,(.I y.1)),(⟨rbx,rox+k*3+1,none⟩,(.I y.2.1)),(⟨rbx,rox+k*3+2,none⟩,(.I y.2.2)),(⟨rbx,rox+0*3,none⟩,(.I x.1)),(⟨rbx,rox+0*3+1,none⟩,(.I x.2.1)),(⟨rbx,rox+0*3+2,none⟩,(.I x.2.2))] [(⟨n37,0,none⟩,(.I y.1)),(⟨n37,1,none⟩,(.I y.2.1)),(⟨n37,2,none⟩,(.I y.2.2)),(⟨rbx,rox+k*3,none⟩,(.I y.1)),(⟨rbx,rox+k*3+1,none⟩,(.I y.2.1)),(⟨rbx,rox+k*3+2,none⟩,(.I y.2.2)),(⟨rbx,rox+0*3,none⟩,(.I x.1)),(⟨rbx,rox+0*3+1,none⟩,(.I x.2.1)),(⟨rbx,rox+0*3+2,none⟩,(.I x.2.2))] hR (SX.cells_sub hM [0,1,2,3,4,5] (by kernel_rfl)) hnen37 hkn37 (by kernel_rfl) (by kernel_rfl) (by kernel_rfl) ?_
   clear hR hM hkn37; intro a41 w42 hR hb43 hM hkn37
   replace hB:=hB.trans (hb43.below (by omega))
   refine SX.list_end 6 (by kernel_rfl) ?_
   refine hK30 _ _ ?_
   refine wp_seq_k fun K44 hK44=>?_
   refine wp_seq_k fun K45 hK45=>?_
   refine SX.region_q [] [.ld [],.ld [2],.cl (.bool (P.within y.2.2 7)),.ld []] [3,4,22,23,24,32] [(.e 3 (.I ((k:Nat):Int))),(.e 4 (.P n37)),(.e 22 (.slice (some ⟨rbx,rox,none⟩) l.length kl)),(.e 23 (.I ((l.length:Nat):Int))),(.e 24 (.I ((k:Nat):Int))),(.e 32 (.bool (!(P.within y.2.2 7))))] [] [] [([],84,#[(.I y.2.2),(.I 7)],(.bool (P.within y.2.2 7)))] [] hR hM mix (by kernel_rfl) (by kernel_rfl) (by kernel_rfl) (by kernel_rfl) trivial trivial (fun w' hb' hM'=>trivial) (fun w' hb' hM'=>⟨fun hg=>SX.pureC (within_any _ _ _),trivial⟩) ?_
   clear hR hM; intro a46 w47 hR hb48 hM
   replace hB:=hB.tr hb48
   replace hkn37:=SX.blk_below hkn37 hb48
   refine hK45 _ _ ?_
   refine SX.cond_ (!(P.within y.2.2 7)) hR (by kernel_rfl) (fun h49=>?_) (fun h49=>?_)
   ·skip
    refine wp_seq_k fun K50 hK50=>?_
    refine SX.region_q0 [.ld []] [2,22,23,24] [(.e 2 (.bool false)),(.e 22 (.slice (some ⟨rbx,rox,none⟩) l.length kl)),(.e 23 (.I ((l.length:Nat):Int))),(.e 24 (.I ((k:Nat):Int)))] hR hM mix (by kernel_rfl) (by kernel_rfl) (by kernel_rfl) (by kernel_rfl) ?_
    clear hR hM; intro a51 w52 hR hb53 hM
    replace hB:=hB.tr hb53
    replace hkn37:=SX.blk_below hkn37 hb53
    refine hK50 _ _ ?_
    refine wp_ret ?_
    try simp only [Exit.then,Exit.inBlock,Nat.reduceEqDiff,↓reduceIte]
    refine SX.ret_ 2 (.bool false) Try.results82 hR (by kernel_rfl) ?_
    clear hR hM mix hK1 hb4 hK5 hK6 hb9 hK15 hK16 hb19 hm22 hK23 hb26 hK27 hK29 hK30 hb33 hzn37 hb36 hkn37 hln37 hn37 hnen37 hb40 hb43 hK44 hK45 hb48 hK50 hb53
    refine ⟨ret_bool ?_,hB⟩
    unfold P.rightContexts
    rw [hx]
    have hl1:((l.length:Int)==0)=false:=by rw [beq_eq_false_iff_ne]; omega
    rw [hl1,Bool.false_or] at h10
    simp only [h10,Bool.false_eq_true,↓reduceIte]
    exact allAt_no hy (by rw [ctx1_eq,h49]; rfl)
   ·skip
    refine wp_skip ?_
    refine hK44 _ _ ?_
    refine wp_seq_k fun K54 hK54=>?_
    refine SX.region_q [(2,decide (0<((k:Nat):Int))),(9,(!(P.within y.1 (((k:Nat):Int)-1))))] [.ld [],.ld [],.ld [],.ld [],.ld [0],.ld [],.nm (.I (((k:Nat):Int)-1)),.cl (.bool (P.within y.1 (((k:Nat):Int)-1))),.ld [],.ld [],.ld [],.ld [1],.cl (.bool (P.within y.2.1 9999)),.ld [],.pk,.pk] [22,23,24,48] [(.e 22 (.slice (some ⟨rbx,rox,none⟩) l.length kl)),(.e 23 (.I ((l.length:Nat):Int))),(.e 24 (.I ((k:Nat):Int))),(.e 48 (.bool (decide (0<((k:Nat):Int))&&((!(P.within y.1 (((k:Nat):Int)-1)))||(!(P.within y.2.1 9999))))))] [] [] [([(2,true)],84,#[(.I y.1),(.I (((k:Nat):Int)-1))],(.bool (P.within y.1 (((k:Nat):Int)-1)))),([(9,false),(2,true)],84,#[(.I y.2.1),(.I 9999)],(.bool (P.within y.2.1 9999)))] [([(2,true)],(.I (IntKind.i64.wrap (((k:Nat):Int)-1))),(.I (((k:Nat):Int)-1)))] hR hM mix (by kernel_rfl) (by kernel_rfl) (by kernel_rfl) (by kernel_rfl) trivial ⟨fun hg=>SX.wrap_ok (by omega),trivial⟩ (fun w' hb' hM'=>trivial) (fun w' hb' hM'=>⟨fun hg=>SX.pureC (within_any _ _ _),fun hg=>SX.pureC (within_any _ _ _),trivial⟩) ?_
    clear hR hM; intro a55 w56 hR hb57 hM
    replace hB:=hB.tr hb57
    replace hkn37:=SX.blk_below hkn37 hb57
    refine hK54 _ _ ?_
    refine SX.cond_ (decide (0<((k:Nat):Int))&&((!(P.within y.1 (((k:Nat):Int)-1)))||(!(P.within y.2.1 9999)))) hR (by kernel_rfl) (fun h58=>?_) (fun h58=>?_)
    ·skip
     refine wp_seq_k fun K59 hK59=>?_
     refine SX.region_q0 [.ld []] [2,22,23,24] [(.e 2 (.bool false)),(.e 22 (.slice (some ⟨rbx,rox,none⟩) l.length kl)),(.e 23 (.I ((l.length:Nat):Int))),(.e 24 (.I ((k:Nat):Int)))] hR hM mix (by kernel_rfl) (by kernel_rfl) (by kernel_rfl) (by kernel_rfl) ?_
     clear hR hM; intro a60 w61 hR hb62 hM
     replace hB:=hB.tr hb62
     replace hkn37:=SX.blk_below hkn37 hb62
     refine hK59 _ _ ?_
     refine wp_ret ?_
     try simp only [Exit.then,Exit.inBlock,Nat.reduceEqDiff,↓reduceIte]
     refine SX.ret_ 2 (.bool false) Try.results82 hR (by kernel_rfl) ?_
     clear hR hM mix hK1 hb4 hK5 hK6 hb9 hK15 hK16 hb19 hm22 hK23 hb26 hK27 hK29 hK30 hb33 hzn37 hb36 hkn37 hln37 hn37 hnen37 hb40 hb43 hK44 hK45 hb48 hK54 hb57 hK59 hb62
     refine ⟨ret_bool ?_,hB⟩
     unfold P.rightContexts
     rw [hx]
     have hl1:((l.length:Int)==0)=false:=by rw [beq_eq_false_iff_ne]; omega
     rw [hl1,Bool.false_or] at h10
     simp only [h10,Bool.false_eq_true,↓reduceIte]
     exact allAt_no hy (by rw [ctx1_eq,h49,h58]; rfl)
    ·skip
     refine wp_skip ?_
     refine hK29 _ _ ?_
     refine SX.region_q [] [.nm (.I ((k+1:Nat):Int)),.ld []] [22,23,24] [(.e 22 (.slice (some ⟨rbx,rox,none⟩) l.length kl)),(.e 23 (.I ((l.length:Nat):Int))),(.e 24 (.I ((k+1:Nat):Int)))] [] [] [] [([],(.I (IntKind.i64.wrap (((k:Nat):Int)+1))),(.I ((k+1:Nat):Int)))] hR hM mix (by kernel_rfl) (by kernel_rfl) (by kernel_rfl) (by kernel_rfl) trivial ⟨fun hg=>SX.wrap_ok (by omega),trivial⟩ (fun w' hb' hM'=>trivial) (fun w' hb' hM'=>trivial) ?_
     clear hR hM; intro a63 w64 hR hb65 hM
     replace hB:=hB.tr hb65
     replace hkn37:=SX.blk_below hkn37 hb65
     exact ⟨l.length-(k+1),by omega,k+1,rfl,by omega,hR.keep (ts:=[22,23,24]) (by kernel_rfl),hB,SX.cells_sub hM [6,7,8] (by kernel_rfl),hIk.step hy (by rw [ctx1_eq,h49,h58]; rfl)⟩
  ·skip
   refine wp_exit ?_
   refine hK15 _ _ ?_
   refine wp_seq_k fun K66 hK66=>?_
   refine SX.region_q0 [.ld []] [2,22,23,24] [(.e 2 (.bool true)),(.e 22 (.slice (some ⟨rbx,rox,none⟩) l.length kl)),(.e 23 (.I ((l.length:Nat):Int))),(.e 24 (.I ((k:Nat):Int)))] hR hM mix (by kernel_rfl) (by kernel_rfl) (by kernel_rfl) (by kernel_rfl) ?_
   clear hR hM; intro a67 w68 hR hb69 hM
   replace hB:=hB.tr hb69
   refine hK66 _ _ ?_
   refine wp_ret ?_
   try simp only [Exit.then,Exit.inBlock,Nat.reduceEqDiff,↓reduceIte]
   refine SX.ret_ 2 (.bool true) Try.results82 hR (by kernel_rfl) ?_
   clear hR hM mix hK1 hb4 hK5 hK6 hb9 hK15 hK16 hb19 hm22 hK23 hb26 hK27 hK66 hb69
   refine ⟨ret_bool ?_,hB⟩
   unfold P.rightContexts
   rw [hx]
   have hl1:((l.length:Int)==0)=false:=by rw [beq_eq_false_iff_ne]; omega
   rw [hl1,Bool.false_or] at h10
   simp only [h10,Bool.false_eq_true,↓reduceIte]
   exact hIk.allAt (le_of_dec h28)

set_option maxHeartbeats 400000 in
theorem rightContexts_nil (u:Value) (l:List (Int × Int × Int)) (w:World) (hl:RecsAt w u l) (hne:l.length=0):Calls Try.prog 82 #[u] w fun e w'=>e=.returned (.bool (P.rightContexts l))∧Below w.heap.size w w':=by
 have hl0:=hl
 obtain ⟨Al,kl,rfl,sl⟩:=hl.shape
 unfold Shape at sl
 have mix:=mixed
 have hB:Below w.heap.size w w:=Below.refl _ _
 have hM:SX.Cells w []:=SX.cells_nil
 refine SX.enter [(.slice Al l.length kl)] 50 Try.func82 rfl rfl (by kernel_rfl) ?_
 intro a hR
 refine wp_seq_k fun K1 hK1=>?_
 refine SX.region_q0 [.ld []] [0] [(.e 0 (.slice Al l.length kl))] hR hM mix (by kernel_rfl) (by kernel_rfl) (by kernel_rfl) (by kernel_rfl) ?_
 clear hR hM; intro a2 w3 hR hb4 hM
 replace hB:=hB.tr hb4
 refine hK1 _ _ ?_
 refine wp_seq_k fun K5 hK5=>?_
 refine wp_seq_k fun K6 hK6=>?_
 refine SX.region_q [(3,(((l.length:Nat):Int)==0)),(10,((((l.length:Nat):Int)==0)||true))] [.ld [],.ld [],.ld [],.ld [],.ld [],.hd (.P 0),.ld [],.hd (.I 0),.ld [],.pk,.ld [],.ld [],.hd (.P 0),.ld [],.hd (.I 0),.ld [],.pk] [0,21] [(.e 0 (.slice Al l.length kl)),(.e 21 (.bool (((((l.length:Nat):Int)==0)||true)||true)))] [] [([(3,false)],ixS 23 (.slice Al l.length kl) (.I 0),(.P 0)),([(3,false)],ldS 3 (.P 0),(.I 0)),([(10,false)],ixS 23 (.slice Al l.length kl) (.I 0),(.P 0)),([(10,false)],ldS 3 (.pointer (some ⟨0,1,none⟩)),(.I 0))] [] [] hR hM mix (by kernel_rfl) (by kernel_rfl) (by kernel_rfl) (by kernel_rfl) trivial trivial (fun w' hb' hM'=>⟨fun hg=>absurd hg (by simp [SX.pv,SX.kv,hne]),fun hg=>absurd hg (by simp [SX.pv,SX.kv,hne]),fun hg=>absurd hg (by simp [SX.pv,SX.kv,hne]),fun hg=>absurd hg (by simp [SX.pv,SX.kv,hne]),trivial⟩) (fun w' hb' hM'=>trivial) ?_
 clear hR hM; intro a7 w8 hR hb9 hM
 replace hB:=hB.tr hb9
 refine hK6 _ _ ?_
 refine SX.cond_ (((((l.length:Nat):Int)==0)||true)||true) hR (by kernel_rfl) (fun h10=>?_) (fun h10=>?_)
 ·skip
  refine wp_seq_k fun K11 hK11=>?_
  refine SX.region_q0 [.ld []] [2] [(.e 2 (.bool false))] hR hM mix (by kernel_rfl) (by kernel_rfl) (by kernel_rfl) (by kernel_rfl) ?_
  clear hR hM; intro a12 w13 hR hb14 hM
  replace hB:=hB.tr hb14
  refine hK11 _ _ ?_
  refine wp_ret ?_
  try simp only [Exit.then,Exit.inBlock,Nat.reduceEqDiff,↓reduceIte]
  refine SX.ret_ 2 (.bool false) Try.results82 hR (by kernel_rfl) ?_
  clear hR hM mix hK1 hb4 hK5 hK6 hb9 hK11 hb14
  refine ⟨ret_bool ?_,hB⟩
  unfold P.rightContexts
  rw [List.getElem?_eq_none (by omega)]
 ·skip
  exact absurd h10 (by simp [hne])

theorem rightContexts_any (u:Value) (l:List (Int × Int × Int)) (w:World) (hl:RecsAt w u l):Calls Try.prog 82 #[u] w fun e w'=>e=.returned (.bool (P.rightContexts l))∧Below w.heap.size w w':=by
 rcases Nat.eq_zero_or_pos l.length with hne | hne
 ·exact rightContexts_nil u l w hl hne
 ·exact rightContexts_cons u l w hl hne
end Go.Proofs.Ytlkcidmmpeebeaa
