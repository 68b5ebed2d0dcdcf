/- Proved: rightObjects -/
import Derived.Test.YtlkcidmmpeebeaaCtx
set_option linter.unusedVariables false
set_option linter.unusedSimpArgs false
namespace Go.Proofs.Ytlkcidmmpeebeaa
open Go.RowKit
set_option maxRecDepth 100000
set_option maxHeartbeats 400000 in
theorem rightObjects_any (c:CodeD) (v1 v2 v3:Value) (w:World) (h:CodeAt w v1 v2 v3 c):Calls Try.prog 83 #[(.agg #[.I c.params,v1,v2,v3])] w fun e w'=>e=.returned (.bool (P.rightObjects c.contexts.length [] c.objects))∧Below w.heap.size w w':=by
 have h0:=h
 obtain ⟨A1,k1,rfl,s1⟩:=h.2.1.shape
 obtain ⟨A2,k2,rfl,s2⟩:=h.2.2.1.shape
 obtain ⟨A3,k3,rfl,s3⟩:=h.2.2.2.shape
 unfold Shape at s1 s2 s3
 have mix:=mixed
 have hB:Below w.heap.size w w:=Below.refl _ _
 have hM:SX.Cells w []:=SX.cells_nil
 refine SX.enter [(.agg #[.I c.params,.slice A1 c.blocks.length k1,.slice A2 c.contexts.length k2,.slice A3 c.objects.length k3])] 52 Try.func83 rfl rfl (by kernel_rfl) ?_
 intro a hR
 refine wp_seq_k fun K1 hK1=>?_
 refine SX.region_l ?_
 obtain ⟨n5,hn5⟩:∃ n,w.heap.size=n:=⟨_,rfl⟩
 have hzn5:w.heap.size≤n5:=by have:=hB.size; omega
 refine SX.list_box 0 n5 [(.I c.params),(.slice A1 c.blocks.length k1),(.slice A2 c.contexts.length k2),(.slice A3 c.objects.length k3)] 26 ((.e 1 (.P n5))::[(.e 0 (.agg #[.I c.params,.slice A1 c.blocks.length k1,.slice A2 c.contexts.length k2,.slice A3 c.objects.length k3]))]) [(⟨n5,0,none⟩,(.I c.params)),(⟨n5,1,none⟩,(.slice A1 c.blocks.length k1)),(⟨n5,2,none⟩,(.slice A2 c.contexts.length k2)),(⟨n5,3,none⟩,(.slice A3 c.objects.length k3))] hR hM hn5 (by kernel_rfl) (by kernel_rfl) ?_
 clear hR hM; intro a2 w3 hR hb4 hM hkn5 hln5
 replace hB:=hB.tr hb4
 replace hR:SX.RSt 52 [] [(.e 1 (.P n5))] a2:=hR.keep (ts:=[1]) (by kernel_rfl)
 refine SX.list_q0 (κ:=[]) 1 1 [.ld []] [1] [(.e 1 (.P n5))] hR hM (by kernel_rfl) (by kernel_rfl) ?_
 clear hR hM; intro a6 w7 hR hb8 hM
 replace hB:=hB.tr hb8
 replace hkn5:=SX.blk_below hkn5 hb8
 refine SX.list_end 2 (by kernel_rfl) ?_
 refine hK1 _ _ ?_
 refine wp_seq_k fun K9 hK9=>?_
 refine SX.region_l ?_
 obtain ⟨n10,hn10⟩:∃ n,w7.heap.size=n:=⟨_,rfl⟩
 have hzn10:w.heap.size≤n10:=by have:=hB.size; omega
 have qn5n10:n5<n10:=by have:=(Array.getElem?_eq_some_iff.1 hkn5).1; omega
 refine SX.list_new 0 n10 (.map #[] 0) ((.e 7 (.map (some n10)))::[(.e 1 (.P n5))]) hR hn10 (by kernel_rfl) ?_
 clear hR; intro a11 hR
 obtain ⟨w12,hw12⟩:∃ w2,w2=w7.alloc (.map #[] 0):=⟨_,rfl⟩
 rw [← hw12]
 have hb13:Below w7.heap.size w7 w12:=by rw [hw12]; exact (Below.refl _ _).alloc (Nat.le_refl _) _
 have hmap:MapK w12 n10 []:=by rw [hw12]; exact MapK.new hn10
 clear hw12; replace hM:=hM.below hb13
 replace hB:=hB.tr hb13
 replace hkn5:=SX.blk_below hkn5 hb13
 replace hR:SX.RSt 52 [] [(.e 1 (.P n5)),(.e 7 (.map (some n10)))] a11:=hR.keep (ts:=[1,7]) (by kernel_rfl)
 refine SX.list_q0 (κ:=[]) 1 1 [.ld []] [1,3] [(.e 1 (.P n5)),(.e 3 (.map (some n10)))] hR hM (by kernel_rfl) (by kernel_rfl) ?_
 clear hR hM; intro a14 w15 hR hb16 hM
 replace hB:=hB.tr hb16
 replace hmap:=hmap.below hb16
 replace hkn5:=SX.blk_below hkn5 hb16
 refine SX.list_end 2 (by kernel_rfl) ?_
 refine hK9 _ _ ?_
 refine wp_seq_k fun K17 hK17=>?_
 refine wp_seq_k fun K18 hK18=>?_
 refine SX.region_q0 [.ld [],.ld [3],.ld [],.ld []] [1,3,9,10,11] [(.e 1 (.P n5)),(.e 3 (.map (some n10))),(.e 9 (.slice A3 c.objects.length k3)),(.e 10 (.I ((c.objects.length:Nat):Int))),(.e 11 (.I 0))] hR hM mix (by kernel_rfl) (by kernel_rfl) (by kernel_rfl) (by kernel_rfl) ?_
 clear hR hM; intro a19 w20 hR hb21 hM
 replace hB:=hB.tr hb21
 replace hmap:=hmap.below hb21
 replace hkn5:=SX.blk_below hkn5 hb21
 refine hK18 _ _ ?_
 refine wp_block ?_
 refine wp_loop_ghost (fun m24 a' w'=>∃ k:Nat,m24=c.objects.length-k∧k≤c.objects.length∧SX.RSt 52 [] [(.e 1 (.P n5)),(.e 3 (.map (some n10))),(.e 9 (.slice A3 c.objects.length k3)),(.e 10 (.I ((c.objects.length:Nat):Int))),(.e 11 (.I ((k:Nat):Int)))] a'∧Below w.heap.size w w'∧SX.Cells w' [(⟨n5,0,none⟩,(.I c.params)),(⟨n5,1,none⟩,(.slice A1 c.blocks.length k1)),(⟨n5,2,none⟩,(.slice A2 c.contexts.length k2)),(⟨n5,3,none⟩,(.slice A3 c.objects.length k3))]∧(MapK w' n10 ((c.objects.take (k)).map (fun y=>(y.1,y.2.1)))∧Upto c.objects (objAt c.contexts.length c.objects) k)) (c.objects.length-0) ⟨0,rfl,Nat.zero_le _,hR.keep (ts:=[1,3,9,10,11]) (by kernel_rfl),hB,hM,⟨hmap,Upto.zero⟩⟩ ?_
 clear hR hM hB
 rintro m24 a22 w23 ⟨k,hm24,hlek,hR,hB,hM,hIk⟩
 obtain ⟨hmap,hup⟩:=hIk
 refine wp_seq_k fun K25 hK25=>?_
 refine SX.region_q0 [.ld []] [1,3,9,10,11,12] [(.e 1 (.P n5)),(.e 3 (.map (some n10))),(.e 9 (.slice A3 c.objects.length k3)),(.e 10 (.I ((c.objects.length:Nat):Int))),(.e 11 (.I ((k:Nat):Int))),(.e 12 (.bool (decide (((k:Nat):Int)<((c.objects.length:Nat):Int)))))] hR hM mix (by kernel_rfl) (by kernel_rfl) (by kernel_rfl) (by kernel_rfl) ?_
 clear hR hM; intro a26 w27 hR hb28 hM
 replace hB:=hB.tr hb28
 replace hmap:=hmap.below hb28
 refine hK25 _ _ ?_
 refine wp_seq_k fun K29 hK29=>?_
 refine SX.cond_ (decide (((k:Nat):Int)<((c.objects.length:Nat):Int))) hR (by kernel_rfl) (fun h30=>?_) (fun h30=>?_)
 ·skip
  refine wp_skip ?_
  refine hK29 _ _ ?_
  refine wp_seq_k fun K31 hK31=>?_
  refine wp_block ?_
  refine wp_seq_k fun K32 hK32=>?_
  have hlt:k<c.objects.length:=lt_of_dec h30
  obtain ⟨y,hy⟩:=get_of_lt hlt
  obtain ⟨rby,roy,hAy,hiy,cr0y,cr1y,cr2y⟩:=h0.2.2.2.elem hy
  subst hAy
  have hoy:rby<w.heap.size:=World.block_lt_of_cell? w _ cr0y
  replace hM:=(SX.cells_add (cell_below hB cr0y) (SX.cells_add (cell_below hB cr1y) (SX.cells_add (cell_below hB cr2y) hM)))
  refine SX.region_l ?_
  refine SX.list_q (κ:=[]) 0 2 [.ix ⟨rby,roy+k*3,none⟩,.ld [0,1,2]] [1,3,9,10,11,14] [(.e 1 (.P n5)),(.e 3 (.map (some n10))),(.e 9 (.slice (some ⟨rby,roy,none⟩) c.objects.length k3)),(.e 10 (.I ((c.objects.length:Nat):Int))),(.e 11 (.I ((k:Nat):Int))),(.e 14 (.agg #[.I y.1,.I y.2.1,.I y.2.2]))] [([],⟨rby,roy,none⟩,c.objects.length,((k:Nat):Int),3,⟨rby,roy+k*3,none⟩)] [] [] [] hR hM (by kernel_rfl) (by kernel_rfl) ⟨fun hg=>SX.ix_ok (by omega),trivial⟩ trivial (fun w' hb' hM'=>trivial) (fun w' hb' hM'=>trivial) ?_
  clear hR hM; intro a33 w34 hR hb35 hM
  replace hB:=hB.tr hb35
  replace hmap:=hmap.below hb35
  obtain ⟨n39,hn39⟩:∃ n,w34.heap.size=n:=⟨_,rfl⟩
  have hzn39:w.heap.size≤n39:=by have:=hB.size; omega
  have qn10n39:n10<n39:=by have:=hmap.lt; omega
  refine SX.list_alloc 2 n39 [(.I 0),(.I 0),(.I 0)] 102 ((.e 5 (.P n39))::[(.e 1 (.P n5)),(.e 3 (.map (some n10))),(.e 9 (.slice (some ⟨rby,roy,none⟩) c.objects.length k3)),(.e 10 (.I ((c.objects.length:Nat):Int))),(.e 11 (.I ((k:Nat):Int))),(.e 14 (.agg #[.I y.1,.I y.2.1,.I y.2.2]))]) hR hM hn39 (by kernel_rfl) ?_
  clear hR hM; intro a36 w37 hR hb38 hM hkn39 hln39 hnen39
  replace hB:=hB.tr hb38
  replace hmap:=hmap.below hb38
  replace hR:SX.RSt 52 [] [(.e 1 (.P n5)),(.e 3 (.map (some n10))),(.e 5 (.P n39)),(.e 9 (.slice (some ⟨rby,roy,none⟩) c.objects.length k3)),(.e 10 (.I ((c.objects.length:Nat):Int))),(.e 11 (.I ((k:Nat):Int))),(.e 14 (.agg #[.I y.1,.I y.2.1,.I y.2.2]))] a36:=hR.keep (ts:=[1,3,5,9,10,11,14]) (by kernel_rfl)
  refine SX.list_store 3 [(0,(.I y.1)),(1,(.I y.2.1)),(2,(.I y.2.2))] [(.I y.1),(.I y.2.1),(.I y.2.2)] [(⟨rby,roy+k*3,none⟩,(.I y.1)),(⟨rby,roy+k*3+1,none⟩,(.I y.2.1)),(⟨rby,roy+k*3+2,none⟩,(.I y.2.2)),(⟨n5,0,none⟩,(.I c.params)),(⟨n5,1,none⟩,(.slice A1 c.blocks.length k1)),(⟨n5,2,none⟩,(.slice A2 c.contexts.length k2)),(⟨n5,3,none⟩,(.slice (some ⟨rby,roy,none⟩) c.objects.length k3))] [(⟨n39,0,none⟩,(.I y.1)),(⟨n39,1,none⟩,(.I y.2.1)),(⟨n39,2,none⟩,(.I y.2.2)),(⟨rby,roy+k*3,none⟩,(.I y.1)),(⟨rby,roy+k*3+1,none⟩,(.I y.2.1)),(⟨rby,roy+k*3+2,none⟩,(.I y.2.2)),(⟨n5,0,none⟩,(.I c.params)),(⟨n5,1,none⟩,(.slice A1 c.blocks.length k1)),(⟨n5,2,none⟩,(.slice A2 c.contexts.length k2)),(⟨n5,3,none⟩,(.slice (some ⟨rby,roy,none⟩) c.objects.length k3))] hR (SX.cells_sub hM [0,1,2,3,4,5,6] (by kernel_rfl)) hnen39 hkn39 (by kernel_rfl) (by kernel_rfl) (by kernel_rfl) ?_
  clear hR hM hkn39; intro a40 w41 hR hb42 hM hkn39
  replace hB:=hB.trans (hb42.below (by omega))
  replace hmap:=hmap.but hb42 (by omega)
  refine SX.list_end 4 (by kernel_rfl) ?_
  refine hK32 _ _ ?_
  refine wp_seq_k fun K43 hK43=>?_
  refine SX.region_l ?_
  refine SX.list_q0 (κ:=[]) 0 5 [.ld [],.ld [0],.ld [],.ld [1],.ld []] [1,3,5,9,10,11,19] [(.e 1 (.P n5)),(.e 3 (.map (some n10))),(.e 5 (.P n39)),(.e 9 (.slice (some ⟨rby,roy,none⟩) c.objects.length k3)),(.e 10 (.I ((c.objects.length:Nat):Int))),(.e 11 (.I ((k:Nat):Int))),(.e 19 (.agg #[.I y.1,.I y.2.1,.I 0]))] hR hM (by kernel_rfl) (by kernel_rfl) ?_
  clear hR hM; intro a44 w45 hR hb46 hM
  replace hB:=hB.tr hb46
  replace hmap:=hmap.below hb46
  replace hkn39:=SX.blk_below hkn39 hb46
  obtain ⟨n50,hn50⟩:∃ n,w45.heap.size=n:=⟨_,rfl⟩
  have hzn50:w.heap.size≤n50:=by have:=hB.size; omega
  have qn39n50:n39<n50:=by have:=(Array.getElem?_eq_some_iff.1 hkn39).1; omega
  have qn10n50:n10<n50:=by have:=hmap.lt; omega
  refine SX.list_alloc 5 n50 [(.I 0),(.I 0),(.I 0)] 181 ((.e 6 (.P n50))::[(.e 1 (.P n5)),(.e 3 (.map (some n10))),(.e 5 (.P n39)),(.e 9 (.slice (some ⟨rby,roy,none⟩) c.objects.length k3)),(.e 10 (.I ((c.objects.length:Nat):Int))),(.e 11 (.I ((k:Nat):Int))),(.e 19 (.agg #[.I y.1,.I y.2.1,.I 0]))]) hR hM hn50 (by kernel_rfl) ?_
  clear hR hM; intro a47 w48 hR hb49 hM hkn50 hln50 hnen50
  replace hB:=hB.tr hb49
  replace hmap:=hmap.below hb49
  replace hkn39:=SX.blk_below hkn39 hb49
  replace hR:SX.RSt 52 [] [(.e 1 (.P n5)),(.e 3 (.map (some n10))),(.e 5 (.P n39)),(.e 6 (.P n50)),(.e 9 (.slice (some ⟨rby,roy,none⟩) c.objects.length k3)),(.e 10 (.I ((c.objects.length:Nat):Int))),(.e 11 (.I ((k:Nat):Int))),(.e 19 (.agg #[.I y.1,.I y.2.1,.I 0]))] a47:=hR.keep (ts:=[1,3,5,6,9,10,11,19]) (by kernel_rfl)
  refine SX.list_store 6 [(0,(.I y.1)),(1,(.I y.2.1)),(2,(.I 0))] [(.I y.1),(.I y.2.1),(.I 0)] [(⟨n39,0,none⟩,(.I y.1)),(⟨n39,1,none⟩,(.I y.2.1)),(⟨n39,2,none⟩,(.I y.2.2)),(⟨rby,roy+k*3,none⟩,(.I y.1)),(⟨rby,roy+k*3+1,none⟩,(.I y.2.1)),(⟨rby,roy+k*3+2,none⟩,(.I y.2.2)),(⟨n5,0,none⟩,(.I c.params)),(⟨n5,1,none⟩,(.slice A1 c.blocks.length k1)),(⟨n5,2,none⟩,(.slice A2 c.contexts.length k2)),(⟨n5,3,none⟩,(.slice (some ⟨rby,roy,none⟩) c.objects.length k3))] [(⟨n50,0,none⟩,(.I y.1)),(⟨n50,1,none⟩,(.I y.2.1)),(⟨n50,2,none⟩,(.I 0)),(⟨n39,0,none⟩,(.I y.1)),(⟨n39,1,none⟩,(.I y.2.1)),(⟨n39,2,none⟩,(.I y.2.2)),(⟨rby,roy+k*3,none⟩,(.I y.1)),(⟨rby,roy+k*3+1,none⟩,(.I y.2.1)),(⟨rby,roy+k*3+2,none⟩,(.I y.2.2)),(⟨n5,0,none⟩,(.I c.params)),(⟨n5,1,none⟩,(.slice A1 c.blocks.length k1)),(⟨n5,2,none⟩,(.slice A2 c.contexts.length k2)),(⟨n5,3,none⟩,(.slice (some ⟨rby,roy,none⟩) c.objects.length k3))] hR (SX.cells_sub hM [0,1,2,3,4,5,6,7,8,9] (by kernel_rfl)) hnen50 hkn50 (by kernel_rfl) (by kernel_rfl) (by kernel_rfl) ?_
  clear hR hM hkn50; intro a51 w52 hR hb53 hM hkn50
  replace hB:=hB.trans (hb53.below (by omega))
  replace hmap:=hmap.but hb53 (by omega)
  replace hkn39:=(hb53.block _ (by omega)).trans hkn39
  refine SX.list_end 7 (by kernel_rfl) ?_
  refine hK43 _ _ ?_
  refine wp_seq_k fun K54 hK54=>?_
  refine wp_seq_k fun K55 hK55=>?_
  refine SX.region_q [(8,(!(P.within y.1 (((c.contexts.length:Nat):Int)-1)))),(14,((!(P.within y.1 (((c.contexts.length:Nat):Int)-1)))||(!(P.within y.2.1 23)))),(19,(((!(P.within y.1 (((c.contexts.length:Nat):Int)-1)))||(!(P.within y.2.1 23)))||decide (y.2.2<1))),(24,((((!(P.within y.1 (((c.contexts.length:Nat):Int)-1)))||(!(P.within y.2.1 23)))||decide (y.2.2<1))||decide (8<y.2.2)))] [.ld [],.ld [3],.ld [],.ld [11],.ld [],.nm (.I (((c.contexts.length:Nat):Int)-1)),.cl (.bool (P.within y.1 (((c.contexts.length:Nat):Int)-1))),.ld [],.ld [],.ld [],.ld [4],.cl (.bool (P.within y.2.1 23)),.ld [],.pk,.ld [],.ld [],.ld [5],.ld [],.pk,.ld [],.ld [],.ld [5],.ld [],.pk,.ld [],.ld [],.ld [0,1,2],.hd (.bool (((c.objects.take (k)).map (fun y=>(y.1,y.2.1))).contains (y.1,y.2.1))),.pk] [1,3,6,9,10,11,48] [(.e 1 (.P n5)),(.e 3 (.map (some n10))),(.e 6 (.P n50)),(.e 9 (.slice (some ⟨rby,roy,none⟩) c.objects.length k3)),(.e 10 (.I ((c.objects.length:Nat):Int))),(.e 11 (.I ((k:Nat):Int))),(.e 48 (.bool (((((!(P.within y.1 (((c.contexts.length:Nat):Int)-1)))||(!(P.within y.2.1 23)))||decide (y.2.2<1))||decide (8<y.2.2))||(((c.objects.take (k)).map (fun y=>(y.1,y.2.1))).contains (y.1,y.2.1)))))] [] [([(24,false)],lookS 179 (.map (some n10)) (.agg #[.I y.1,.I y.2.1,.I 0]) false,(.bool (((c.objects.take (k)).map (fun y=>(y.1,y.2.1))).contains (y.1,y.2.1))))] [([],84,#[(.I y.1),(.I (((c.contexts.length:Nat):Int)-1))],(.bool (P.within y.1 (((c.contexts.length:Nat):Int)-1)))),([(8,false)],84,#[(.I y.2.1),(.I 23)],(.bool (P.within y.2.1 23)))] [([],(.I (IntKind.i64.wrap (((c.contexts.length:Nat):Int)-1))),(.I (((c.contexts.length:Nat):Int)-1)))] hR hM mix (by kernel_rfl) (by kernel_rfl) (by kernel_rfl) (by kernel_rfl) trivial ⟨fun hg=>SX.wrap_ok (by omega),trivial⟩ (fun w' hb' hM'=>⟨fun hg=>lookK_run (hmap.below hb') y.1 y.2.1,trivial⟩) (fun w' hb' hM'=>⟨fun hg=>SX.pureC (within_any _ _ _),fun hg=>SX.pureC (within_any _ _ _),trivial⟩) ?_
  clear hR hM; intro a56 w57 hR hb58 hM
  replace hB:=hB.tr hb58
  replace hmap:=hmap.below hb58
  replace hkn39:=SX.blk_below hkn39 hb58
  replace hkn50:=SX.blk_below hkn50 hb58
  refine hK55 _ _ ?_
  refine SX.cond_ (((((!(P.within y.1 (((c.contexts.length:Nat):Int)-1)))||(!(P.within y.2.1 23)))||decide (y.2.2<1))||decide (8<y.2.2))||(((c.objects.take (k)).map (fun y=>(y.1,y.2.1))).contains (y.1,y.2.1))) hR (by kernel_rfl) (fun h59=>?_) (fun h59=>?_)
  ·skip
   refine wp_seq_k fun K60 hK60=>?_
   refine SX.region_q0 [.ld []] [1,2,3,9,10,11] [(.e 1 (.P n5)),(.e 2 (.bool false)),(.e 3 (.map (some n10))),(.e 9 (.slice (some ⟨rby,roy,none⟩) c.objects.length k3)),(.e 10 (.I ((c.objects.length:Nat):Int))),(.e 11 (.I ((k:Nat):Int)))] hR hM mix (by kernel_rfl) (by kernel_rfl) (by kernel_rfl) (by kernel_rfl) ?_
   clear hR hM; intro a61 w62 hR hb63 hM
   replace hB:=hB.tr hb63
   replace hmap:=hmap.below hb63
   replace hkn39:=SX.blk_below hkn39 hb63
   replace hkn50:=SX.blk_below hkn50 hb63
   refine hK60 _ _ ?_
   refine wp_ret ?_
   try simp only [Exit.then,Exit.inBlock,Nat.reduceEqDiff,↓reduceIte]
   refine SX.ret_ 2 (.bool false) Try.results83 hR (by kernel_rfl) ?_
   clear hR hM mix hK1 hzn5 hb4 hkn5 hln5 hn5 hb8 hK9 qn5n10 hb13 hn10 hzn10 hb16 hK17 hK18 hb21 hm24 hK25 hb28 hK29 hK31 hK32 hb35 hzn39 qn10n39 hb38 hkn39 hln39 hn39 hnen39 hb42 hK43 hb46 hzn50 qn39n50 qn10n50 hb49 hkn50 hln50 hn50 hnen50 hb53 hK54 hK55 hb58 hK60 hb63
   refine ⟨ret_bool ?_,hB⟩
   rw [← objs_eq]
   exact allAt_no hy (by have:=h59; rw [objAt_eq] at this; exact (by simpa using this:objAt c.contexts.length c.objects k y=false))
  ·skip
   refine wp_skip ?_
   refine hK54 _ _ ?_
   refine SX.region_l ?_
   refine SX.list_q0 (κ:=[]) 0 2 [.ld [],.ld [0,1,2]] [1,3,9,10,11,49,50] [(.e 1 (.P n5)),(.e 3 (.map (some n10))),(.e 9 (.slice (some ⟨rby,roy,none⟩) c.objects.length k3)),(.e 10 (.I ((c.objects.length:Nat):Int))),(.e 11 (.I ((k:Nat):Int))),(.e 49 (.map (some n10))),(.e 50 (.agg #[.I y.1,.I y.2.1,.I 0]))] hR hM (by kernel_rfl) (by kernel_rfl) ?_
   clear hR hM; intro a64 w65 hR hb66 hM
   replace hB:=hB.tr hb66
   replace hmap:=hmap.below hb66
   replace hkn39:=SX.blk_below hkn39 hb66
   replace hkn50:=SX.blk_below hkn50 hb66
   obtain ⟨w68,hrunw68,hb69,hneww68⟩:=updK_run hmap y.1 y.2.1 (by have:=h59; simp only [Bool.or_eq_false_iff] at this; exact this.2)
   refine SX.list_skip 2 (updS 179 (.map (some n10)) (.agg #[.I y.1,.I y.2.1,.I 0]) (.bool true)) hR (by kernel_rfl) hrunw68 ?_
   clear hR hrunw68 hmap; intro a67 hR; have hmap:=hneww68; clear hneww68
   replace hB:=hB.trans (hb69.below (by omega))
   have hqn50n10:n50≠n10:=by omega
   have hqn39n10:n39≠n10:=by omega
   have hqrbyn10:rby≠n10:=by omega
   have hqn5n10:n5≠n10:=by omega
   replace hM:=SX.cells_but hM hb69 (SX.ne_cons hqn50n10 (SX.ne_cons hqn50n10 (SX.ne_cons hqn50n10 (SX.ne_cons hqn39n10 (SX.ne_cons hqn39n10 (SX.ne_cons hqn39n10 (SX.ne_cons hqrbyn10 (SX.ne_cons hqrbyn10 (SX.ne_cons hqrbyn10 (SX.ne_cons hqn5n10 (SX.ne_cons hqn5n10 (SX.ne_cons hqn5n10 (SX.ne_cons hqn5n10 SX.ne_nil)))))))))))))
   replace hkn39:=(hb69.block _ (by omega)).trans hkn39
   replace hkn50:=(hb69.block _ (by omega)).trans hkn50
   refine SX.list_end 3 (by kernel_rfl) ?_
   refine hK31 _ _ ?_
   refine SX.region_q [] [.nm (.I ((k+1:Nat):Int)),.ld []] [1,3,9,10,11] [(.e 1 (.P n5)),(.e 3 (.map (some n10))),(.e 9 (.slice (some ⟨rby,roy,none⟩) c.objects.length k3)),(.e 10 (.I ((c.objects.length:Nat):Int))),(.e 11 (.I ((k+1:Nat):Int)))] [] [] [] [([],(.I (IntKind.i64.wrap (((k:Nat):Int)+1))),(.I ((k+1:Nat):Int)))] hR hM mix (by kernel_rfl) (by kernel_rfl) (by kernel_rfl) (by kernel_rfl) trivial ⟨fun hg=>SX.wrap_ok (by omega),trivial⟩ (fun w' hb' hM'=>trivial) (fun w' hb' hM'=>trivial) ?_
   clear hR hM; intro a70 w71 hR hb72 hM
   replace hB:=hB.tr hb72
   replace hmap:=hmap.below hb72
   replace hkn39:=SX.blk_below hkn39 hb72
   replace hkn50:=SX.blk_below hkn50 hb72
   exact ⟨c.objects.length-(k+1),by omega,k+1,rfl,by omega,hR.keep (ts:=[1,3,9,10,11]) (by kernel_rfl),hB,SX.cells_sub hM [9,10,11,12] (by kernel_rfl),⟨by rw [tmap_step hy]; exact hmap,hup.step hy (by have:=h59; rw [objAt_eq] at this; simpa using this)⟩⟩
 ·skip
  refine wp_exit ?_
  refine hK17 _ _ ?_
  refine wp_seq_k fun K73 hK73=>?_
  refine SX.region_q0 [.ld []] [1,2,3,9,10,11] [(.e 1 (.P n5)),(.e 2 (.bool true)),(.e 3 (.map (some n10))),(.e 9 (.slice A3 c.objects.length k3)),(.e 10 (.I ((c.objects.length:Nat):Int))),(.e 11 (.I ((k:Nat):Int)))] hR hM mix (by kernel_rfl) (by kernel_rfl) (by kernel_rfl) (by kernel_rfl) ?_
  clear hR hM; intro a74 w75 hR hb76 hM
  replace hB:=hB.tr hb76
  replace hmap:=hmap.below hb76
  refine hK73 _ _ ?_
  refine wp_ret ?_
  try simp only [Exit.then,Exit.inBlock,Nat.reduceEqDiff,↓reduceIte]
  refine SX.ret_ 2 (.bool true) Try.results83 hR (by kernel_rfl) ?_
  clear hR hM mix hK1 hzn5 hb4 hkn5 hln5 hn5 hb8 hK9 qn5n10 hb13 hn10 hzn10 hb16 hK17 hK18 hb21 hm24 hK25 hb28 hK29 hK73 hb76
  refine ⟨ret_bool ?_,hB⟩
  rw [← objs_eq]
  exact hup.allAt (le_of_dec h30)
end Go.Proofs.Ytlkcidmmpeebeaa
