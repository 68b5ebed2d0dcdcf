/- Proved: edges,rightContexts -/
import Derived.Test.YtlkcidmmpeebeaaTail1
import Derived.Test.YtlkcidmmpeebeaaMaps
set_option linter.unusedVariables false
set_option linter.unusedSimpArgs false
namespace Go.Proofs.Ytlkcidmmpeebeaa
open Go.RowKit
set_option maxRecDepth 100000
theorem ctx1_eq (k:Nat) (y:Int × Int × Int):P.ctx1 k y=!((!P.within y.2.2 7)||(decide ((0:Int)<(k:Int))&&((!P.within y.1 ((k:Int)-1))||(!P.within y.2.1 9999)))):=by
 unfold P.ctx1
 have e:decide ((0:Int)<(k:Int))=decide (0<k):=by rw [Bool.eq_iff_iff]; simp
 rw [e]
 cases P.within y.2.2 7 <;> simp

set_option maxHeartbeats 400000 in
theorem rightContexts_cons (u:Value) (l:List (Int × Int × Int)) (w:World) (hl:RecsAt w u l) (hne:0<l.length):Calls Try.prog 82 #[u] w fun e w'=>e=.returned (.bool (P.rightContexts l))∧Below w.heap.size w w':=by
 have hl0:=hl
 obtain ⟨Al,kl,rfl,sl⟩:=hl.shape
 unfold Shape at sl
 have mix:=mixed
 have hB:Below w.heap.size w w:=Below.refl _ _
 have hM:SX.Cells w []:=SX.cells_nil
 refine SX.enter [(.slice Al l.length kl)] 50 Try.func82 rfl rfl (by kernel_rfl) ?_
 intro a hR
 refine SX.qs [.ld []] [0] [] hR hM hB mix fun a1 w2 hR hb3 hB hM=>?_
 refine wp_seq_k fun K4 hK4=>?_
 obtain ⟨x,hx⟩:=get_of_lt (l:=l) (k:=0) hne
 obtain ⟨rbx,rox,hAx,hix,cr0x,cr1x,cr2x⟩:=hl0.elem hx
 subst hAx
 have hox:rbx<w.heap.size:=World.block_lt_of_cell? w _ cr0x
 replace hM:=(SX.cells_add (cell_below hB cr0x) (SX.cells_add (cell_below hB cr1x) (SX.cells_add (cell_below hB cr2x) hM)))
 refine SX.qf [(3,((l.length:Int)==0)),(10,(((l.length:Int)==0)||(x.1 != (-1))))] [.ld [],.ld [],.ld [],.ld [],.ld [],.ix ⟨rbx,rox+0*3,none⟩,.ld [],.ld [0],.ld [],.pk,.ld [],.ld [],.ix ⟨rbx,rox+0*3,none⟩,.ld [],.ld [1],.ld [],.pk] [0,21] [(.e 21 (.bool ((((l.length:Int)==0)||(x.1 != (-1)))||(x.2.1 != (-1)))))] [([(3,false)],⟨rbx,rox,none⟩,l.length,0,3,⟨rbx,rox+0*3,none⟩),([(10,false)],⟨rbx,rox,none⟩,l.length,0,3,⟨rbx,rox+0*3,none⟩)] [] [] [] hR hM hB mix ⟨fun hg=>SX.ix_ok (k:=0) hne,fun hg=>SX.ix_ok (k:=0) hne,trivial⟩ trivial (fun w' hb' hM'=>trivial) (fun w' hb' hM'=>trivial) fun a5 w6 hR hb7 hB hM=>?_
 refine SX.cond_ ((((l.length:Int)==0)||(x.1 != (-1)))||(x.2.1 != (-1))) hR (by kernel_rfl) (fun h8=>?_) (fun h8=>?_)
 ·skip
  refine SX.qs [.ld []] [2] [(.e 2 (.bool false))] hR hM hB mix fun a9 w10 hR hb11 hB hM=>?_
  refine wp_ret ?_
  try simp only [Exit.then,Exit.inBlock,Nat.reduceEqDiff,↓reduceIte]
  refine SX.ret_ 2 (.bool false) Try.results82 hR (by kernel_rfl) ?_
  clear hR hM mix hb3 hK4 hb7 hb11
  refine ⟨ret_bool ?_,hB⟩
  unfold P.rightContexts
  rw [hx]
  have hl1:((l.length:Int)==0)=false:=by rw [beq_eq_false_iff_ne]; omega
  rw [hl1,Bool.false_or] at h8
  simp only [h8,Bool.false_eq_true,↓reduceIte]
 ·skip
  refine wp_skip ?_
  refine hK4 _ _ ?_
  refine wp_seq_k fun K12 hK12=>?_
  refine SX.qs [.ld [],.ld [],.ld []] [22,23,24] [(.e 22 (.slice (some ⟨rbx,rox,none⟩) l.length kl)),(.e 23 (.I (l.length:Int))),(.e 24 (.I 0))] hR hM hB mix fun a13 w14 hR hb15 hB hM=>?_
  refine wp_block ?_
  refine wp_loop_ghost (fun m18 a' w'=>∃ k:Nat,m18=l.length-k∧k≤l.length∧SX.RSt 50 [] [(.e 22 (.slice (some ⟨rbx,rox,none⟩) l.length kl)),(.e 23 (.I (l.length:Int))),(.e 24 (.I (k:Int)))] a'∧Below w.heap.size w w'∧SX.Cells w' [(⟨rbx,rox+0*3,none⟩,(.I x.1)),(⟨rbx,rox+0*3+1,none⟩,(.I x.2.1)),(⟨rbx,rox+0*3+2,none⟩,(.I x.2.2))]∧Upto l P.ctx1 k) (l.length-0) ⟨0,rfl,Nat.zero_le _,hR.keep (ts:=[22,23,24]) (by kernel_rfl),hB,hM,Upto.zero⟩ ?_
  clear hR hM hB
  rintro m18 a16 w17 ⟨k,hm18,hlek,hR,hB,hM,hIk⟩
  refine SX.qs [.ld []] [22,23,24,25] [(.e 25 (.bool (decide ((k:Int)<(l.length:Int)))))] hR hM hB mix fun a19 w20 hR hb21 hB hM=>?_
  refine wp_seq_k fun K22 hK22=>?_
  refine SX.cond_ (decide ((k:Int)<(l.length:Int))) hR (by kernel_rfl) (fun h23=>?_) (fun h23=>?_)
  ·skip
   refine wp_skip ?_
   refine hK22 _ _ ?_
   refine wp_seq_k fun K24 hK24=>?_
   refine wp_block ?_
   refine wp_seq_k fun K25 hK25=>?_
   have hlt:k<l.length:=lt_of_dec h23
   obtain ⟨y,hy⟩:=get_of_lt hlt
   obtain ⟨rby,roy,hAy,hiy,cr0y,cr1y,cr2y⟩:=hl0.elem hy
   obtain ⟨rfl,rfl⟩:rbx=rby∧rox=roy:=by simpa using hAy
   replace hM:=(SX.cells_add (cell_below hB cr0y) (SX.cells_add (cell_below hB cr1y) (SX.cells_add (cell_below hB cr2y) hM)))
   refine SX.region_l ?_
   refine SX.list_q (κ:=[]) 0 3 [.ld [],.ix ⟨rbx,rox+k*3,none⟩,.ld [0,1,2]] [22,23,24,26,28] [(.e 22 (.slice (some ⟨rbx,rox,none⟩) l.length kl)),(.e 23 (.I (l.length:Int))),(.e 24 (.I (k:Int))),(.e 26 (.I (k:Int))),(.e 28 (.agg #[.I y.1,.I y.2.1,.I y.2.2]))] [([],⟨rbx,rox,none⟩,l.length,(k:Int),3,⟨rbx,rox+k*3,none⟩)] [] [] [] hR hM (by kernel_rfl) (by kernel_rfl) ⟨fun hg=>SX.ix_ok (by omega),trivial⟩ trivial (fun w' hb' hM'=>trivial) (fun w' hb' hM'=>trivial) ?_
   clear hR hM; intro a26 w27 hR hb28 hM
   replace hB:=hB.tr hb28
   obtain ⟨n32,hn32⟩:∃ n,w27.heap.size=n:=⟨_,rfl⟩
   have hzn32:w.heap.size≤n32:=by have:=hB.size; omega
   refine SX.list_alloc 3 n32 [(.I 0),(.I 0),(.I 0)] 99 ((.e 4 (.P n32))::[(.e 22 (.slice (some ⟨rbx,rox,none⟩) l.length kl)),(.e 23 (.I (l.length:Int))),(.e 24 (.I (k:Int))),(.e 26 (.I (k:Int))),(.e 28 (.agg #[.I y.1,.I y.2.1,.I y.2.2]))]) hR hM hn32 (by kernel_rfl) ?_
   clear hR hM; intro a29 w30 hR hb31 hM hkn32 hln32 hnen32
   replace hB:=hB.tr hb31
   replace hR:SX.RSt 50 [] [(.e 4 (.P n32)),(.e 22 (.slice (some ⟨rbx,rox,none⟩) l.length kl)),(.e 23 (.I (l.length:Int))),(.e 24 (.I (k:Int))),(.e 26 (.I (k:Int))),(.e 28 (.agg #[.I y.1,.I y.2.1,.I y.2.2]))] a29:=hR.keep (ts:=[4,22,23,24,26,28]) (by kernel_rfl)
   refine SX.list_q0 (κ:=[]) 4 1 [.ld []] [3,4,22,23,24,28] [(.e 3 (.I (k:Int))),(.e 4 (.P n32)),(.e 22 (.slice (some ⟨rbx,rox,none⟩) l.length kl)),(.e 23 (.I (l.length:Int))),(.e 24 (.I (k:Int))),(.e 28 (.agg #[.I y.1,.I y.2.1,.I y.2.2]))] hR hM (by kernel_rfl) (by kernel_rfl) ?_
   clear hR hM; intro a33 w34 hR hb35 hM
   replace hB:=hB.tr hb35
   replace hkn32:=SX.blk_below hkn32 hb35
   refine SX.list_store 5 [(0,(.I y.1)),(1,(.I y.2.1)),(2,(.I y.2.2))] [(.I y.1),(.I y.2.1),(.I y.2.2)] [(⟨rbx,rox+k*3,none⟩,(.I y.1)),(⟨rbx,rox+k*3+1,none⟩,(.I y.2.1)),(⟨rbx,rox+k*3+2,none⟩,(.I y.2.2)),(⟨rbx,rox+0*3,none⟩,(.I x.1)),(⟨rbx,rox+0*3+1,none⟩,(.I x.2.1)),(⟨rbx,rox+0*3+2,none⟩,(.I x.2.2))] [(⟨n32,0,none⟩,(.I y.1)),(⟨n32,1,none⟩,(.I y.2.1)),(⟨n32,2,none⟩,(.I y.2.2)),(⟨rbx,rox+k*3,none⟩,(.I y.1)),(⟨rbx,rox+k*3+1,none⟩,(.I y.2.1)),(⟨rbx,rox+k*3+2,none⟩,(.I y.2.2)),(⟨rbx,rox+0*3,none⟩,(.I x.1)),(⟨rbx,rox+0*3+1,none⟩,(.I x.2.1)),(⟨rbx,rox+0*3+2,none⟩,(.I x.2.2))] hR (SX.cells_sub hM [0,1,2,3,4,5] (by kernel_rfl)) hnen32 hkn32 (by kernel_rfl) (by kernel_rfl) (by kernel_rfl) ?_
   clear hR hM hkn32; intro a36 w37 hR hb38 hM hkn32
   replace hB:=hB.trans (hb38.below (by omega))
   refine SX.list_end 6 (by kernel_rfl) ?_
   refine hK25 _ _ ?_
   refine wp_seq_k fun K39 hK39=>?_
   refine SX.qf [] [.ld [],.ld [2],.cl (.bool (P.within y.2.2 7)),.ld []] [3,4,22,23,24,32] [(.e 32 (.bool (!(P.within y.2.2 7))))] [] [] [([],84,#[(.I y.2.2),(.I 7)],(.bool (P.within y.2.2 7)))] [] hR hM hB mix trivial trivial (fun w' hb' hM'=>trivial) (fun w' hb' hM'=>⟨fun hg=>SX.pureC (within_any _ _ _),trivial⟩) fun a40 w41 hR hb42 hB hM=>?_
   replace hkn32:=SX.blk_below hkn32 hb42
   refine SX.cond_ (!(P.within y.2.2 7)) hR (by kernel_rfl) (fun h43=>?_) (fun h43=>?_)
   ·skip
    refine SX.qs [.ld []] [2,22,23,24] [(.e 2 (.bool false))] hR hM hB mix fun a44 w45 hR hb46 hB hM=>?_
    replace hkn32:=SX.blk_below hkn32 hb46
    refine wp_ret ?_
    try simp only [Exit.then,Exit.inBlock,Nat.reduceEqDiff,↓reduceIte]
    refine SX.ret_ 2 (.bool false) Try.results82 hR (by kernel_rfl) ?_
    clear hR hM mix hb3 hK4 hb7 hK12 hb15 hm18 hb21 hK22 hK24 hK25 hb28 hzn32 hb31 hkn32 hln32 hn32 hnen32 hb35 hb38 hK39 hb42 hb46
    refine ⟨ret_bool ?_,hB⟩
    unfold P.rightContexts
    rw [hx]
    have hl1:((l.length:Int)==0)=false:=by rw [beq_eq_false_iff_ne]; omega
    rw [hl1,Bool.false_or] at h8
    simp only [h8,Bool.false_eq_true,↓reduceIte]
    exact allAt_no hy (by rw [ctx1_eq,h43]; rfl)
   ·skip
    refine wp_skip ?_
    refine hK39 _ _ ?_
    refine SX.qf [(2,decide (0<(k:Int))),(9,(!(P.within y.1 ((k:Int)-1))))] [.ld [],.ld [],.ld [],.ld [],.ld [0],.ld [],.nm (.I ((k:Int)-1)),.cl (.bool (P.within y.1 ((k:Int)-1))),.ld [],.ld [],.ld [],.ld [1],.cl (.bool (P.within y.2.1 9999)),.ld [],.pk,.pk] [22,23,24,48] [(.e 48 (.bool (decide (0<(k:Int))&&((!(P.within y.1 ((k:Int)-1)))||(!(P.within y.2.1 9999))))))] [] [] [([(2,true)],84,#[(.I y.1),(.I ((k:Int)-1))],(.bool (P.within y.1 ((k:Int)-1)))),([(9,false),(2,true)],84,#[(.I y.2.1),(.I 9999)],(.bool (P.within y.2.1 9999)))] [([(2,true)],(.I (IntKind.i64.wrap ((k:Int)-1))),(.I ((k:Int)-1)))] hR hM hB mix trivial ⟨fun hg=>SX.wrap_ok (by omega),trivial⟩ (fun w' hb' hM'=>trivial) (fun w' hb' hM'=>⟨fun hg=>SX.pureC (within_any _ _ _),fun hg=>SX.pureC (within_any _ _ _),trivial⟩) fun a47 w48 hR hb49 hB hM=>?_
    replace hkn32:=SX.blk_below hkn32 hb49
    refine SX.cond_ (decide (0<(k:Int))&&((!(P.within y.1 ((k:Int)-1)))||(!(P.within y.2.1 9999)))) hR (by kernel_rfl) (fun h50=>?_) (fun h50=>?_)
    ·skip
     refine SX.qs [.ld []] [2,22,23,24] [(.e 2 (.bool false))] hR hM hB mix fun a51 w52 hR hb53 hB hM=>?_
     replace hkn32:=SX.blk_below hkn32 hb53
     refine wp_ret ?_
     try simp only [Exit.then,Exit.inBlock,Nat.reduceEqDiff,↓reduceIte]
     refine SX.ret_ 2 (.bool false) Try.results82 hR (by kernel_rfl) ?_
     clear hR hM mix hb3 hK4 hb7 hK12 hb15 hm18 hb21 hK22 hK24 hK25 hb28 hzn32 hb31 hkn32 hln32 hn32 hnen32 hb35 hb38 hK39 hb42 hb49 hb53
     refine ⟨ret_bool ?_,hB⟩
     unfold P.rightContexts
     rw [hx]
     have hl1:((l.length:Int)==0)=false:=by rw [beq_eq_false_iff_ne]; omega
     rw [hl1,Bool.false_or] at h8
     simp only [h8,Bool.false_eq_true,↓reduceIte]
     exact allAt_no hy (by rw [ctx1_eq,h43,h50]; rfl)
    ·skip
     refine wp_skip ?_
     refine hK24 _ _ ?_
     refine SX.qf0 [] [.nm (.I ((k+1:Nat):Int)),.ld []] [22,23,24] [(.e 24 (.I ((k+1:Nat):Int)))] [] [] [] [([],(.I (IntKind.i64.wrap ((k:Int)+1))),(.I ((k+1:Nat):Int)))] hR hM hB mix trivial ⟨fun hg=>SX.wrap_ok (by omega),trivial⟩ (fun w' hb' hM'=>trivial) (fun w' hb' hM'=>trivial) fun a54 w55 hR hb56 hB hM=>?_
     replace hkn32:=SX.blk_below hkn32 hb56
     exact ⟨l.length-(k+1),by omega,k+1,rfl,by omega,hR.keep (ts:=[22,23,24]) (by kernel_rfl),hB,SX.cells_sub hM [6,7,8] (by kernel_rfl),hIk.step hy (by rw [ctx1_eq,h43,h50]; rfl)⟩
  ·skip
   refine wp_exit ?_
   refine hK12 _ _ ?_
   refine SX.qs [.ld []] [2,22,23,24] [(.e 2 (.bool true))] hR hM hB mix fun a57 w58 hR hb59 hB hM=>?_
   refine wp_ret ?_
   try simp only [Exit.then,Exit.inBlock,Nat.reduceEqDiff,↓reduceIte]
   refine SX.ret_ 2 (.bool true) Try.results82 hR (by kernel_rfl) ?_
   clear hR hM mix hb3 hK4 hb7 hK12 hb15 hm18 hb21 hK22 hb59
   refine ⟨ret_bool ?_,hB⟩
   unfold P.rightContexts
   rw [hx]
   have hl1:((l.length:Int)==0)=false:=by rw [beq_eq_false_iff_ne]; omega
   rw [hl1,Bool.false_or] at h8
   simp only [h8,Bool.false_eq_true,↓reduceIte]
   exact hIk.allAt (le_of_dec h23)

set_option maxHeartbeats 400000 in
theorem rightContexts_nil (u:Value) (l:List (Int × Int × Int)) (w:World) (hl:RecsAt w u l) (hne:l.length=0):Calls Try.prog 82 #[u] w fun e w'=>e=.returned (.bool (P.rightContexts l))∧Below w.heap.size w w':=by
 have hl0:=hl
 obtain ⟨Al,kl,rfl,sl⟩:=hl.shape
 unfold Shape at sl
 have mix:=mixed
 have hB:Below w.heap.size w w:=Below.refl _ _
 have hM:SX.Cells w []:=SX.cells_nil
 refine SX.enter [(.slice Al l.length kl)] 50 Try.func82 rfl rfl (by kernel_rfl) ?_
 intro a hR
 refine SX.qs [.ld []] [0] [] hR hM hB mix fun a1 w2 hR hb3 hB hM=>?_
 refine wp_seq_k fun K4 hK4=>?_
 refine SX.qf [(3,((l.length:Int)==0)),(10,(((l.length:Int)==0)||true))] [.ld [],.ld [],.ld [],.ld [],.ld [],.hd (.P 0),.ld [],.hd (.I 0),.ld [],.pk,.ld [],.ld [],.hd (.P 0),.ld [],.hd (.I 0),.ld [],.pk] [0,21] [(.e 21 (.bool ((((l.length:Int)==0)||true)||true)))] [] [([(3,false)],ixS 23 (.slice Al l.length kl) (.I 0),(.P 0)),([(3,false)],ldS 3 (.P 0),(.I 0)),([(10,false)],ixS 23 (.slice Al l.length kl) (.I 0),(.P 0)),([(10,false)],ldS 3 (.pointer (some ⟨0,1,none⟩)),(.I 0))] [] [] hR hM hB mix trivial trivial (fun w' hb' hM'=>⟨fun hg=>absurd hg (by simp [SX.pv,SX.kv,hne]),fun hg=>absurd hg (by simp [SX.pv,SX.kv,hne]),fun hg=>absurd hg (by simp [SX.pv,SX.kv,hne]),fun hg=>absurd hg (by simp [SX.pv,SX.kv,hne]),trivial⟩) (fun w' hb' hM'=>trivial) fun a5 w6 hR hb7 hB hM=>?_
 refine SX.cond_ ((((l.length:Int)==0)||true)||true) hR (by kernel_rfl) (fun h8=>?_) (fun h8=>?_)
 ·skip
  refine SX.qs [.ld []] [2] [(.e 2 (.bool false))] hR hM hB mix fun a9 w10 hR hb11 hB hM=>?_
  refine wp_ret ?_
  try simp only [Exit.then,Exit.inBlock,Nat.reduceEqDiff,↓reduceIte]
  refine SX.ret_ 2 (.bool false) Try.results82 hR (by kernel_rfl) ?_
  clear hR hM mix hb3 hK4 hb7 hb11
  refine ⟨ret_bool ?_,hB⟩
  unfold P.rightContexts
  rw [List.getElem?_eq_none (by omega)]
 ·skip
  exact absurd h8 (by simp [hne])

theorem rightContexts_any (u:Value) (l:List (Int × Int × Int)) (w:World) (hl:RecsAt w u l):Calls Try.prog 82 #[u] w fun e w'=>e=.returned (.bool (P.rightContexts l))∧Below w.heap.size w w':=by
 rcases Nat.eq_zero_or_pos l.length with hne | hne
 ·exact rightContexts_nil u l w hl hne
 ·exact rightContexts_cons u l w hl hne
end Go.Proofs.Ytlkcidmmpeebeaa
