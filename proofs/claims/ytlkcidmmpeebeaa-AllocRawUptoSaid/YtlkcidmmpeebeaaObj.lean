/- Proved: rightObjects -/
import Derived.Test.YtlkcidmmpeebeaaScE
set_option linter.unusedVariables false
set_option linter.unusedSimpArgs false
namespace Go.Proofs.Ytlkcidmmpeebeaa
open Go.RowKit
set_option maxRecDepth 100000
set_option maxHeartbeats 400000 in
theorem rightObjects_any (c:CodeD) (v1 v2 v3:Value) (w:World) (h:CodeAt w v1 v2 v3 c):Calls Try.prog 83 #[(.agg #[.I c.params,v1,v2,v3])] w fun e w'=>e=.returned (.bool (P.rightObjects c.contexts.length [] c.objects))∧Below w.heap.size w w':=by
 have h0:=h
 obtain ⟨A1,k1,rfl,s1⟩:=h.2.1.shape
 obtain ⟨A2,k2,rfl,s2⟩:=h.2.2.1.shape
 obtain ⟨A3,k3,rfl,s3⟩:=h.2.2.2.shape
 unfold Shape at s1 s2 s3
 have mix:=mixed
 have hB:Below w.heap.size w w:=Below.refl _ _
 have hM:SX.Cells w []:=SX.cells_nil
 refine SX.enter [(.agg #[.I c.params,.slice A1 c.blocks.length k1,.slice A2 c.contexts.length k2,.slice A3 c.objects.length k3])] 52 Try.func83 rfl rfl (by kernel_rfl) ?_
 intro a hR
 refine wp_seq_k fun K1 hK1=>?_
 refine SX.region_l ?_
 obtain ⟨n5,hn5⟩:∃ n,w.heap.size=n:=⟨_,rfl⟩
 have hzn5:w.heap.size≤n5:=by have:=hB.size; omega
 refine SX.list_box 0 n5 [(.I c.params),(.slice A1 c.blocks.length k1),(.slice A2 c.contexts.length k2),(.slice A3 c.objects.length k3)] 26 ((.e 1 (.P n5))::[(.e 0 (.agg #[.I c.params,.slice A1 c.blocks.length k1,.slice A2 c.contexts.length k2,.slice A3 c.objects.length k3]))]) [(⟨n5,0,none⟩,(.I c.params)),(⟨n5,1,none⟩,(.slice A1 c.blocks.length k1)),(⟨n5,2,none⟩,(.slice A2 c.contexts.length k2)),(⟨n5,3,none⟩,(.slice A3 c.objects.length k3))] hR hM hn5 (by kernel_rfl) (by kernel_rfl) ?_
 clear hR hM; intro a2 w3 hR hb4 hM hkn5 hln5
 replace hB:=hB.tr hb4
 replace hR:SX.RSt 52 [] [(.e 1 (.P n5))] a2:=hR.keep (ts:=[1]) (by kernel_rfl)
 refine SX.list_q0 (κ:=[]) 1 1 [.ld []] [1] [(.e 1 (.P n5))] hR hM (by kernel_rfl) (by kernel_rfl) ?_
 clear hR hM; intro a6 w7 hR hb8 hM
 replace hB:=hB.tr hb8
 replace hkn5:=SX.blk_below hkn5 hb8
 refine SX.list_end 2 (by kernel_rfl) ?_
 refine hK1 _ _ ?_
 refine wp_seq_k fun K9 hK9=>?_
 refine SX.region_l ?_
 obtain ⟨n10,hn10⟩:∃ n,w7.heap.size=n:=⟨_,rfl⟩
 have hzn10:w.heap.size≤n10:=by have:=hB.size; omega
 have qn5n10:n5<n10:=by have:=(Array.getElem?_eq_some_iff.1 hkn5).1; omega
 refine SX.list_new 0 n10 (.map #[] 0) ((.e 7 (.map (some n10)))::[(.e 1 (.P n5))]) hR hn10 (by kernel_rfl) ?_
 clear hR; intro a11 hR
 obtain ⟨w12,hw12⟩:∃ w2,w2=w7.alloc (.map #[] 0):=⟨_,rfl⟩
 rw [← hw12]
 have hb13:Below w7.heap.size w7 w12:=by rw [hw12]; exact (Below.refl _ _).alloc (Nat.le_refl _) _
 have hmap:MapK w12 n10 []:=by rw [hw12]; exact MapK.new hn10
 clear hw12; replace hM:=hM.below hb13
 replace hB:=hB.tr hb13
 replace hkn5:=SX.blk_below hkn5 hb13
 replace hR:SX.RSt 52 [] [(.e 1 (.P n5)),(.e 7 (.map (some n10)))] a11:=hR.keep (ts:=[1,7]) (by kernel_rfl)
 refine SX.list_q0 (κ:=[]) 1 1 [.ld []] [1,3] [(.e 1 (.P n5)),(.e 3 (.map (some n10)))] hR hM (by kernel_rfl) (by kernel_rfl) ?_
 clear hR hM; intro a14 w15 hR hb16 hM
 replace hB:=hB.tr hb16
 replace hmap:=hmap.below hb16
 replace hkn5:=SX.blk_below hkn5 hb16
 refine SX.list_end 2 (by kernel_rfl) ?_
 refine hK9 _ _ ?_
 refine wp_seq_k fun K17 hK17=>?_
 refine SX.qs [.ld [],.ld [3],.ld [],.ld []] [1,3,9,10,11] [(.e 9 (.slice A3 c.objects.length k3)),(.e 10 (.I (c.objects.length:Int))),(.e 11 (.I 0))] hR hM hB mix fun a18 w19 hR hb20 hB hM=>?_
 replace hmap:=hmap.below hb20
 replace hkn5:=SX.blk_below hkn5 hb20
 refine wp_block ?_
 refine wp_loop_ghost (fun m23 a' w'=>∃ k:Nat,m23=c.objects.length-k∧k≤c.objects.length∧SX.RSt 52 [] [(.e 1 (.P n5)),(.e 3 (.map (some n10))),(.e 9 (.slice A3 c.objects.length k3)),(.e 10 (.I (c.objects.length:Int))),(.e 11 (.I (k:Int)))] a'∧Below w.heap.size w w'∧SX.Cells w' [(⟨n5,0,none⟩,(.I c.params)),(⟨n5,1,none⟩,(.slice A1 c.blocks.length k1)),(⟨n5,2,none⟩,(.slice A2 c.contexts.length k2)),(⟨n5,3,none⟩,(.slice A3 c.objects.length k3))]∧(MapK w' n10 ((c.objects.take (k)).map (fun y=>(y.1,y.2.1)))∧Upto c.objects (objAt c.contexts.length c.objects) k)) (c.objects.length-0) ⟨0,rfl,Nat.zero_le _,hR.keep (ts:=[1,3,9,10,11]) (by kernel_rfl),hB,hM,⟨hmap,Upto.zero⟩⟩ ?_
 clear hR hM hB
 rintro m23 a21 w22 ⟨k,hm23,hlek,hR,hB,hM,hIk⟩
 obtain ⟨hmap,hup⟩:=hIk
 refine SX.qs [.ld []] [1,3,9,10,11,12] [(.e 12 (.bool (decide ((k:Int)<(c.objects.length:Int)))))] hR hM hB mix fun a24 w25 hR hb26 hB hM=>?_
 replace hmap:=hmap.below hb26
 refine wp_seq_k fun K27 hK27=>?_
 refine SX.cond_ (decide ((k:Int)<(c.objects.length:Int))) hR (by kernel_rfl) (fun h28=>?_) (fun h28=>?_)
 ·skip
  refine wp_skip ?_
  refine hK27 _ _ ?_
  refine wp_seq_k fun K29 hK29=>?_
  refine wp_block ?_
  refine wp_seq_k fun K30 hK30=>?_
  have hlt:k<c.objects.length:=lt_of_dec h28
  obtain ⟨y,hy⟩:=get_of_lt hlt
  obtain ⟨rby,roy,hAy,hiy,cr0y,cr1y,cr2y⟩:=h0.2.2.2.elem hy
  subst hAy
  have hoy:rby<w.heap.size:=World.block_lt_of_cell? w _ cr0y
  replace hM:=(SX.cells_add (cell_below hB cr0y) (SX.cells_add (cell_below hB cr1y) (SX.cells_add (cell_below hB cr2y) hM)))
  refine SX.region_l ?_
  refine SX.list_q (κ:=[]) 0 2 [.ix ⟨rby,roy+k*3,none⟩,.ld [0,1,2]] [1,3,9,10,11,14] [(.e 1 (.P n5)),(.e 3 (.map (some n10))),(.e 9 (.slice (some ⟨rby,roy,none⟩) c.objects.length k3)),(.e 10 (.I (c.objects.length:Int))),(.e 11 (.I (k:Int))),(.e 14 (.agg #[.I y.1,.I y.2.1,.I y.2.2]))] [([],⟨rby,roy,none⟩,c.objects.length,(k:Int),3,⟨rby,roy+k*3,none⟩)] [] [] [] hR hM (by kernel_rfl) (by kernel_rfl) ⟨fun hg=>SX.ix_ok (by omega),trivial⟩ trivial (fun w' hb' hM'=>trivial) (fun w' hb' hM'=>trivial) ?_
  clear hR hM; intro a31 w32 hR hb33 hM
  replace hB:=hB.tr hb33
  replace hmap:=hmap.below hb33
  obtain ⟨n37,hn37⟩:∃ n,w32.heap.size=n:=⟨_,rfl⟩
  have hzn37:w.heap.size≤n37:=by have:=hB.size; omega
  have qn10n37:n10<n37:=by have:=hmap.lt; omega
  refine SX.list_alloc 2 n37 [(.I 0),(.I 0),(.I 0)] 102 ((.e 5 (.P n37))::[(.e 1 (.P n5)),(.e 3 (.map (some n10))),(.e 9 (.slice (some ⟨rby,roy,none⟩) c.objects.length k3)),(.e 10 (.I (c.objects.length:Int))),(.e 11 (.I (k:Int))),(.e 14 (.agg #[.I y.1,.I y.2.1,.I y.2.2]))]) hR hM hn37 (by kernel_rfl) ?_
  clear hR hM; intro a34 w35 hR hb36 hM hkn37 hln37 hnen37
  replace hB:=hB.tr hb36
  replace hmap:=hmap.below hb36
  replace hR:SX.RSt 52 [] [(.e 1 (.P n5)),(.e 3 (.map (some n10))),(.e 5 (.P n37)),(.e 9 (.slice (some ⟨rby,roy,none⟩) c.objects.length k3)),(.e 10 (.I (c.objects.length:Int))),(.e 11 (.I (k:Int))),(.e 14 (.agg #[.I y.1,.I y.2.1,.I y.2.2]))] a34:=hR.keep (ts:=[1,3,5,9,10,11,14]) (by kernel_rfl)
  refine SX.list_store 3 [(0,(.I y.1)),(1,(.I y.2.1)),(2,(.I y.2.2))] [(.I y.1),(.I y.2.1),(.I y.2.2)] [(⟨rby,roy+k*3,none⟩,(.I y.1)),(⟨rby,roy+k*3+1,none⟩,(.I y.2.1)),(⟨rby,roy+k*3+2,none⟩,(.I y.2.2)),(⟨n5,0,none⟩,(.I c.params)),(⟨n5,1,none⟩,(.slice A1 c.blocks.length k1)),(⟨n5,2,none⟩,(.slice A2 c.contexts.length k2)),(⟨n5,3,none⟩,(.slice (some ⟨rby,roy,none⟩) c.objects.length k3))] [(⟨n37,0,none⟩,(.I y.1)),(⟨n37,1,none⟩,(.I y.2.1)),(⟨n37,2,none⟩,(.I y.2.2)),(⟨rby,roy+k*3,none⟩,(.I y.1)),(⟨rby,roy+k*3+1,none⟩,(.I y.2.1)),(⟨rby,roy+k*3+2,none⟩,(.I y.2.2)),(⟨n5,0,none⟩,(.I c.params)),(⟨n5,1,none⟩,(.slice A1 c.blocks.length k1)),(⟨n5,2,none⟩,(.slice A2 c.contexts.length k2)),(⟨n5,3,none⟩,(.slice (some ⟨rby,roy,none⟩) c.objects.length k3))] hR (SX.cells_sub hM [0,1,2,3,4,5,6] (by kernel_rfl)) hnen37 hkn37 (by kernel_rfl) (by kernel_rfl) (by kernel_rfl) ?_
  clear hR hM hkn37; intro a38 w39 hR hb40 hM hkn37
  replace hB:=hB.trans (hb40.below (by omega))
  replace hmap:=hmap.but hb40 (by omega)
  refine SX.list_end 4 (by kernel_rfl) ?_
  refine hK30 _ _ ?_
  refine wp_seq_k fun K41 hK41=>?_
  refine SX.region_l ?_
  refine SX.list_q0 (κ:=[]) 0 5 [.ld [],.ld [0],.ld [],.ld [1],.ld []] [1,3,5,9,10,11,19] [(.e 1 (.P n5)),(.e 3 (.map (some n10))),(.e 5 (.P n37)),(.e 9 (.slice (some ⟨rby,roy,none⟩) c.objects.length k3)),(.e 10 (.I (c.objects.length:Int))),(.e 11 (.I (k:Int))),(.e 19 (.agg #[.I y.1,.I y.2.1,.I 0]))] hR hM (by kernel_rfl) (by kernel_rfl) ?_
  clear hR hM; intro a42 w43 hR hb44 hM
  replace hB:=hB.tr hb44
  replace hmap:=hmap.below hb44
  replace hkn37:=SX.blk_below hkn37 hb44
  obtain ⟨n48,hn48⟩:∃ n,w43.heap.size=n:=⟨_,rfl⟩
  have hzn48:w.heap.size≤n48:=by have:=hB.size; omega
  have qn37n48:n37<n48:=by have:=(Array.getElem?_eq_some_iff.1 hkn37).1; omega
  have qn10n48:n10<n48:=by have:=hmap.lt; omega
  refine SX.list_alloc 5 n48 [(.I 0),(.I 0),(.I 0)] 181 ((.e 6 (.P n48))::[(.e 1 (.P n5)),(.e 3 (.map (some n10))),(.e 5 (.P n37)),(.e 9 (.slice (some ⟨rby,roy,none⟩) c.objects.length k3)),(.e 10 (.I (c.objects.length:Int))),(.e 11 (.I (k:Int))),(.e 19 (.agg #[.I y.1,.I y.2.1,.I 0]))]) hR hM hn48 (by kernel_rfl) ?_
  clear hR hM; intro a45 w46 hR hb47 hM hkn48 hln48 hnen48
  replace hB:=hB.tr hb47
  replace hmap:=hmap.below hb47
  replace hkn37:=SX.blk_below hkn37 hb47
  replace hR:SX.RSt 52 [] [(.e 1 (.P n5)),(.e 3 (.map (some n10))),(.e 5 (.P n37)),(.e 6 (.P n48)),(.e 9 (.slice (some ⟨rby,roy,none⟩) c.objects.length k3)),(.e 10 (.I (c.objects.length:Int))),(.e 11 (.I (k:Int))),(.e 19 (.agg #[.I y.1,.I y.2.1,.I 0]))] a45:=hR.keep (ts:=[1,3,5,6,9,10,11,19]) (by kernel_rfl)
  refine SX.list_store 6 [(0,(.I y.1)),(1,(.I y.2.1)),(2,(.I 0))] [(.I y.1),(.I y.2.1),(.I 0)] [(⟨n37,0,none⟩,(.I y.1)),(⟨n37,1,none⟩,(.I y.2.1)),(⟨n37,2,none⟩,(.I y.2.2)),(⟨rby,roy+k*3,none⟩,(.I y.1)),(⟨rby,roy+k*3+1,none⟩,(.I y.2.1)),(⟨rby,roy+k*3+2,none⟩,(.I y.2.2)),(⟨n5,0,none⟩,(.I c.params)),(⟨n5,1,none⟩,(.slice A1 c.blocks.length k1)),(⟨n5,2,none⟩,(.slice A2 c.contexts.length k2)),(⟨n5,3,none⟩,(.slice (some ⟨rby,roy,none⟩) c.objects.length k3))] [(⟨n48,0,none⟩,(.I y.1)),(⟨n48,1,none⟩,(.I y.2.1)),(⟨n48,2,none⟩,(.I 0)),(⟨n37,0,none⟩,(.I y.1)),(⟨n37,1,none⟩,(.I y.2.1)),(⟨n37,2,none⟩,(.I y.2.2)),(⟨rby,roy+k*3,none⟩,(.I y.1)),(⟨rby,roy+k*3+1,none⟩,(.I y.2.1)),(⟨rby,roy+k*3+2,none⟩,(.I y.2.2)),(⟨n5,0,none⟩,(.I c.params)),(⟨n5,1,none⟩,(.slice A1 c.blocks.length k1)),(⟨n5,2,none⟩,(.slice A2 c.contexts.length k2)),(⟨n5,3,none⟩,(.slice (some ⟨rby,roy,none⟩) c.objects.length k3))] hR (SX.cells_sub hM [0,1,2,3,4,5,6,7,8,9] (by kernel_rfl)) hnen48 hkn48 (by kernel_rfl) (by kernel_rfl) (by kernel_rfl) ?_
  clear hR hM hkn48; intro a49 w50 hR hb51 hM hkn48
  replace hB:=hB.trans (hb51.below (by omega))
  replace hmap:=hmap.but hb51 (by omega)
  replace hkn37:=(hb51.block _ (by omega)).trans hkn37
  refine SX.list_end 7 (by kernel_rfl) ?_
  refine hK41 _ _ ?_
  refine wp_seq_k fun K52 hK52=>?_
  refine SX.qf [(8,(!(P.within y.1 ((c.contexts.length:Int)-1)))),(14,((!(P.within y.1 ((c.contexts.length:Int)-1)))||(!(P.within y.2.1 23)))),(19,(((!(P.within y.1 ((c.contexts.length:Int)-1)))||(!(P.within y.2.1 23)))||decide (y.2.2<1))),(24,((((!(P.within y.1 ((c.contexts.length:Int)-1)))||(!(P.within y.2.1 23)))||decide (y.2.2<1))||decide (8<y.2.2)))] [.ld [],.ld [3],.ld [],.ld [11],.ld [],.nm (.I ((c.contexts.length:Int)-1)),.cl (.bool (P.within y.1 ((c.contexts.length:Int)-1))),.ld [],.ld [],.ld [],.ld [4],.cl (.bool (P.within y.2.1 23)),.ld [],.pk,.ld [],.ld [],.ld [5],.ld [],.pk,.ld [],.ld [],.ld [5],.ld [],.pk,.ld [],.ld [],.ld [0,1,2],.hd (.bool (((c.objects.take (k)).map (fun y=>(y.1,y.2.1))).contains (y.1,y.2.1))),.pk] [1,3,6,9,10,11,48] [(.e 48 (.bool (((((!(P.within y.1 ((c.contexts.length:Int)-1)))||(!(P.within y.2.1 23)))||decide (y.2.2<1))||decide (8<y.2.2))||(((c.objects.take (k)).map (fun y=>(y.1,y.2.1))).contains (y.1,y.2.1)))))] [] [([(24,false)],lookS 179 (.map (some n10)) (.agg #[.I y.1,.I y.2.1,.I 0]) false,(.bool (((c.objects.take (k)).map (fun y=>(y.1,y.2.1))).contains (y.1,y.2.1))))] [([],84,#[(.I y.1),(.I ((c.contexts.length:Int)-1))],(.bool (P.within y.1 ((c.contexts.length:Int)-1)))),([(8,false)],84,#[(.I y.2.1),(.I 23)],(.bool (P.within y.2.1 23)))] [([],(.I (IntKind.i64.wrap ((c.contexts.length:Int)-1))),(.I ((c.contexts.length:Int)-1)))] hR hM hB mix trivial ⟨fun hg=>SX.wrap_ok (by omega),trivial⟩ (fun w' hb' hM'=>⟨fun hg=>lookK_run (hmap.below hb') y.1 y.2.1,trivial⟩) (fun w' hb' hM'=>⟨fun hg=>SX.pureC (within_any _ _ _),fun hg=>SX.pureC (within_any _ _ _),trivial⟩) fun a53 w54 hR hb55 hB hM=>?_
  replace hmap:=hmap.below hb55
  replace hkn37:=SX.blk_below hkn37 hb55
  replace hkn48:=SX.blk_below hkn48 hb55
  refine SX.cond_ (((((!(P.within y.1 ((c.contexts.length:Int)-1)))||(!(P.within y.2.1 23)))||decide (y.2.2<1))||decide (8<y.2.2))||(((c.objects.take (k)).map (fun y=>(y.1,y.2.1))).contains (y.1,y.2.1))) hR (by kernel_rfl) (fun h56=>?_) (fun h56=>?_)
  ·skip
   refine SX.qs [.ld []] [1,2,3,9,10,11] [(.e 2 (.bool false))] hR hM hB mix fun a57 w58 hR hb59 hB hM=>?_
   replace hmap:=hmap.below hb59
   replace hkn37:=SX.blk_below hkn37 hb59
   replace hkn48:=SX.blk_below hkn48 hb59
   refine wp_ret ?_
   try simp only [Exit.then,Exit.inBlock,Nat.reduceEqDiff,↓reduceIte]
   refine SX.ret_ 2 (.bool false) Try.results83 hR (by kernel_rfl) ?_
   clear hR hM mix hK1 hzn5 hb4 hkn5 hln5 hn5 hb8 hK9 qn5n10 hb13 hn10 hzn10 hb16 hK17 hb20 hm23 hb26 hK27 hK29 hK30 hb33 hzn37 qn10n37 hb36 hkn37 hln37 hn37 hnen37 hb40 hK41 hb44 hzn48 qn37n48 qn10n48 hb47 hkn48 hln48 hn48 hnen48 hb51 hK52 hb55 hb59
   refine ⟨ret_bool ?_,hB⟩
   rw [← objs_eq]
   exact allAt_no hy (by have:=h56; rw [objAt_eq] at this; exact (by simpa using this:objAt c.contexts.length c.objects k y=false))
  ·skip
   refine wp_skip ?_
   refine hK52 _ _ ?_
   refine SX.region_l ?_
   refine SX.list_q0 (κ:=[]) 0 2 [.ld [],.ld [0,1,2]] [1,3,9,10,11,49,50] [(.e 1 (.P n5)),(.e 3 (.map (some n10))),(.e 9 (.slice (some ⟨rby,roy,none⟩) c.objects.length k3)),(.e 10 (.I (c.objects.length:Int))),(.e 11 (.I (k:Int))),(.e 49 (.map (some n10))),(.e 50 (.agg #[.I y.1,.I y.2.1,.I 0]))] hR hM (by kernel_rfl) (by kernel_rfl) ?_
   clear hR hM; intro a60 w61 hR hb62 hM
   replace hB:=hB.tr hb62
   replace hmap:=hmap.below hb62
   replace hkn37:=SX.blk_below hkn37 hb62
   replace hkn48:=SX.blk_below hkn48 hb62
   obtain ⟨w64,hrunw64,hb65,hneww64⟩:=updK_run hmap y.1 y.2.1 (by have:=h56; simp only [Bool.or_eq_false_iff] at this; exact this.2)
   refine SX.list_skip 2 (updS 179 (.map (some n10)) (.agg #[.I y.1,.I y.2.1,.I 0]) (.bool true)) hR (by kernel_rfl) hrunw64 ?_
   clear hR hrunw64 hmap; intro a63 hR; have hmap:=hneww64; clear hneww64
   replace hB:=hB.trans (hb65.below (by omega))
   have hqn48n10:n48≠n10:=by omega
   have hqn37n10:n37≠n10:=by omega
   have hqrbyn10:rby≠n10:=by omega
   have hqn5n10:n5≠n10:=by omega
   replace hM:=SX.cells_but hM hb65 (SX.ne_cons hqn48n10 (SX.ne_cons hqn48n10 (SX.ne_cons hqn48n10 (SX.ne_cons hqn37n10 (SX.ne_cons hqn37n10 (SX.ne_cons hqn37n10 (SX.ne_cons hqrbyn10 (SX.ne_cons hqrbyn10 (SX.ne_cons hqrbyn10 (SX.ne_cons hqn5n10 (SX.ne_cons hqn5n10 (SX.ne_cons hqn5n10 (SX.ne_cons hqn5n10 SX.ne_nil)))))))))))))
   replace hkn37:=(hb65.block _ (by omega)).trans hkn37
   replace hkn48:=(hb65.block _ (by omega)).trans hkn48
   refine SX.list_end 3 (by kernel_rfl) ?_
   refine hK29 _ _ ?_
   refine SX.qf0 [] [.nm (.I ((k+1:Nat):Int)),.ld []] [1,3,9,10,11] [(.e 11 (.I ((k+1:Nat):Int)))] [] [] [] [([],(.I (IntKind.i64.wrap ((k:Int)+1))),(.I ((k+1:Nat):Int)))] hR hM hB mix trivial ⟨fun hg=>SX.wrap_ok (by omega),trivial⟩ (fun w' hb' hM'=>trivial) (fun w' hb' hM'=>trivial) fun a66 w67 hR hb68 hB hM=>?_
   replace hmap:=hmap.below hb68
   replace hkn37:=SX.blk_below hkn37 hb68
   replace hkn48:=SX.blk_below hkn48 hb68
   exact ⟨c.objects.length-(k+1),by omega,k+1,rfl,by omega,hR.keep (ts:=[1,3,9,10,11]) (by kernel_rfl),hB,SX.cells_sub hM [9,10,11,12] (by kernel_rfl),⟨by rw [tmap_step hy]; exact hmap,hup.step hy (by have:=h56; rw [objAt_eq] at this; simpa using this)⟩⟩
 ·skip
  refine wp_exit ?_
  refine hK17 _ _ ?_
  refine SX.qs [.ld []] [1,2,3,9,10,11] [(.e 2 (.bool true))] hR hM hB mix fun a69 w70 hR hb71 hB hM=>?_
  replace hmap:=hmap.below hb71
  refine wp_ret ?_
  try simp only [Exit.then,Exit.inBlock,Nat.reduceEqDiff,↓reduceIte]
  refine SX.ret_ 2 (.bool true) Try.results83 hR (by kernel_rfl) ?_
  clear hR hM mix hK1 hzn5 hb4 hkn5 hln5 hn5 hb8 hK9 qn5n10 hb13 hn10 hzn10 hb16 hK17 hb20 hm23 hb26 hK27 hb71
  refine ⟨ret_bool ?_,hB⟩
  rw [← objs_eq]
  exact hup.allAt (le_of_dec h28)
end Go.Proofs.Ytlkcidmmpeebeaa
