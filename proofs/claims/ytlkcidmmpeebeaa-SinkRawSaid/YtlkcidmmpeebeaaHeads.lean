/- Proved: ref06.heads -/
import Derived.Test.YtlkcidmmpeebeaaROps
set_option linter.unusedVariables false
set_option linter.unusedSimpArgs false
namespace Go.Proofs.Ytlkcidmmpeebeaa
open Go.RowKit
set_option maxRecDepth 100000
theorem ctxR_eq (k:Nat) (y:Int × Int × Int):(((decide (y.2.2<0)||decide (8≤y.2.2))||((((k:Nat):Int)==0)&&((y.1 != (-1))||(y.2.1 != (-1)))))||(decide (0<((k:Nat):Int))&&(((decide (y.1<0)||decide (((k:Nat):Int)≤y.1))||decide (y.2.1<0))||decide (9999<y.2.1))))=!R.ctx1 k y:=by
 unfold R.ctx1
 have e1:((((k:Nat):Int))==0)=(k==0):=by rw [Bool.eq_iff_iff]; simp
 have e2:decide (0<((k:Nat):Int))=decide (0<k):=by rw [Bool.eq_iff_iff]; simp
 rw [e1,e2,Bool.not_not]
theorem objR_eq (n:Nat) (y:Int × Int × Int):(((((decide (y.1<0)||decide (((n:Nat):Int)≤y.1))||decide (y.2.1<0))||decide (24≤y.2.1))||decide (y.2.2<1))||decide (8<y.2.2))=!R.obj1 n y:=by
 unfold R.obj1; rw [Bool.not_not]
theorem Upto.take_all {α:Type} {xs:List α} {p:α→Bool} {j k:Nat} (h:Upto xs (fun _=>p) j) (hk:k≤j):(xs.take k).all p=true:=by
 rw [List.all_eq_true]; intro x hx
 obtain ⟨i,hi⟩:=List.mem_iff_getElem?.1 hx
 rw [List.getElem?_take] at hi
 split at hi
 ·exact h i x (by omega) hi
 ·cases hi
theorem take_no {α:Type} {xs:List α} {p:α→Bool} {j k:Nat} {x:α} (hx:xs[j]?=some x) (hj:j<k) (hp:p x=false):(xs.take k).all p=false:=by
 rw [List.all_eq_false]; exact ⟨x,List.mem_iff_getElem?.2 ⟨j,by rw [List.getElem?_take,if_pos hj]; exact hx⟩,by simp [hp]⟩

set_option maxHeartbeats 1000000 in
theorem heads_cons (c:CodeD) (v1 v2 v3:Value) (w:World) (h:CodeAt w v1 v2 v3 c) (hne:0<c.blocks.length):Calls Try.prog 57 #[(.agg #[.I c.params,v1,v2,v3])] w fun e w'=>e=.returned (.bool (R.heads c))∧Below w.heap.size w w':=by
 have h0:=h
 obtain ⟨A1,k1,rfl,s1⟩:=h.2.1.shape
 obtain ⟨A2,k2,rfl,s2⟩:=h.2.2.1.shape
 obtain ⟨A3,k3,rfl,s3⟩:=h.2.2.2.shape
 unfold Shape at s1 s2 s3
 have mix:=mixed
 have hB:Below w.heap.size w w:=Below.refl _ _
 have hM:SX.Cells w []:=SX.cells_nil
 refine SX.enter [(.agg #[.I c.params,.slice A1 c.blocks.length k1,.slice A2 c.contexts.length k2,.slice A3 c.objects.length k3])] 159 Try.func57 rfl rfl (by kernel_rfl) ?_
 intro a hR
 refine wp_seq_k fun K1 hK1=>?_
 refine SX.region_l ?_
 obtain ⟨n5,hn5⟩:∃ n,w.heap.size=n:=⟨_,rfl⟩
 have hzn5:w.heap.size≤n5:=by have:=hB.size; omega
 refine SX.list_box 0 n5 [(.I c.params),(.slice A1 c.blocks.length k1),(.slice A2 c.contexts.length k2),(.slice A3 c.objects.length k3)] 26 ((.e 1 (.P n5))::[(.e 0 (.agg #[.I c.params,.slice A1 c.blocks.length k1,.slice A2 c.contexts.length k2,.slice A3 c.objects.length k3]))]) [(⟨n5,0,none⟩,(.I c.params)),(⟨n5,1,none⟩,(.slice A1 c.blocks.length k1)),(⟨n5,2,none⟩,(.slice A2 c.contexts.length k2)),(⟨n5,3,none⟩,(.slice A3 c.objects.length k3))] hR hM hn5 (by kernel_rfl) (by kernel_rfl) ?_
 clear hR hM; intro a2 w3 hR hb4 hM hkn5 hln5
 replace hB:=hB.tr hb4
 replace hR:SX.RSt 159 [] [(.e 1 (.P n5))] a2:=hR.keep (ts:=[1]) (by kernel_rfl)
 refine SX.list_q0 (κ:=[]) 1 1 [.ld []] [1] [(.e 1 (.P n5))] hR hM (by kernel_rfl) (by kernel_rfl) ?_
 clear hR hM; intro a6 w7 hR hb8 hM
 replace hB:=hB.tr hb8
 replace hkn5:=SX.blk_below hkn5 hb8
 refine SX.list_end 2 (by kernel_rfl) ?_
 refine hK1 _ _ ?_
 refine wp_seq_k fun K9 hK9=>?_
 refine wp_seq_k fun K10 hK10=>?_
 obtain ⟨x,hx⟩:=get_of_lt (l:=c.blocks) (k:=0) (by omega)
 obtain ⟨bbx,box,hAx,B1x,j1x,B2x,j2x,B3x,j3x,B4x,j4x,hsx,hblx,cb0x,cb1x,cb2x,cb3x,cb4x,cb5x,cb6x,cb7x,cb8x,cb9x⟩:=h0.2.1.elem hx
 subst hAx; unfold Shape at hsx
 have hox:bbx<w.heap.size:=World.block_lt_of_cell? w _ cb0x
 replace hM:=(SX.cells_add (cell_below hB cb0x) (SX.cells_add (cell_below hB cb1x) (SX.cells_add (cell_below hB cb2x) (SX.cells_add (cell_below hB cb3x) (SX.cells_add (cell_below hB cb4x) (SX.cells_add (cell_below hB cb5x) (SX.cells_add (cell_below hB cb6x) (SX.cells_add (cell_below hB cb7x) (SX.cells_add (cell_below hB cb8x) (SX.cells_add (cell_below hB cb9x) hM))))))))))
 refine SX.region_q [(3,decide (c.params<0)),(8,(decide (c.params<0)||decide (4<c.params))),(14,((decide (c.params<0)||decide (4<c.params))||(((c.blocks.length:Nat):Int)==0))),(24,(((decide (c.params<0)||decide (4<c.params))||(((c.blocks.length:Nat):Int)==0))||(x.params != c.params)))] [.ld [],.ld [10],.ld [],.ld [],.ld [],.ld [10],.ld [],.pk,.ld [],.ld [],.ld [11],.ld [],.ld [],.pk,.ld [],.ld [],.ld [11],.ix ⟨bbx,box+0*10,none⟩,.ld [],.ld [0],.ld [],.ld [10],.ld [],.pk,.ld [],.ld [],.ld [12],.ld [],.ld [],.pk] [1,37] [(.e 1 (.P n5)),(.e 37 (.bool ((((decide (c.params<0)||decide (4<c.params))||(((c.blocks.length:Nat):Int)==0))||(x.params != c.params))||(((c.contexts.length:Nat):Int)==0))))] [([(14,false)],⟨bbx,box,none⟩,c.blocks.length,0,10,⟨bbx,box+0*10,none⟩)] [] [] [] hR hM mix (by kernel_rfl) (by kernel_rfl) (by kernel_rfl) (by kernel_rfl) ⟨fun hg=>SX.ix_ok (k:=0) (by omega),trivial⟩ trivial (fun w' hb' hM'=>trivial) (fun w' hb' hM'=>trivial) ?_
 clear hR hM; intro a11 w12 hR hb13 hM
 replace hB:=hB.tr hb13
 replace hkn5:=SX.blk_below hkn5 hb13
 refine hK10 _ _ ?_
 refine SX.cond_ ((((decide (c.params<0)||decide (4<c.params))||(((c.blocks.length:Nat):Int)==0))||(x.params != c.params))||(((c.contexts.length:Nat):Int)==0)) hR (by kernel_rfl) (fun h14=>?_) (fun h14=>?_)
 ·skip
  refine wp_seq_k fun K15 hK15=>?_
  refine SX.region_q0 [.ld []] [2] [(.e 2 (.bool false))] hR hM mix (by kernel_rfl) (by kernel_rfl) (by kernel_rfl) (by kernel_rfl) ?_
  clear hR hM; intro a16 w17 hR hb18 hM
  replace hB:=hB.tr hb18
  replace hkn5:=SX.blk_below hkn5 hb18
  refine hK15 _ _ ?_
  refine wp_ret ?_
  try simp only [Exit.then,Exit.inBlock,Nat.reduceEqDiff,↓reduceIte]
  refine SX.ret_ 2 (.bool false) Try.results57 hR (by kernel_rfl) ?_
  clear hR hM mix hK1 hzn5 hb4 hkn5 hln5 hn5 hb8 hK9 hK10 hb13 hK15 hb18
  refine ⟨ret_bool ?_,hB⟩
  unfold R.heads
  rw [show R.paramsAt c 0=x.params from params_at (i:=0) hx]
  have e1:(((c.blocks.length:Nat):Int)==0)=(c.blocks.length==0):=by rw [Bool.eq_iff_iff]; simp
  have e2:(((c.contexts.length:Nat):Int)==0)=(c.contexts.length==0):=by rw [Bool.eq_iff_iff]; simp
  rw [e1,e2] at h14
  rw [h14]; rfl
 ·skip
  refine wp_skip ?_
  refine hK9 _ _ ?_
  refine wp_seq_k fun K19 hK19=>?_
  refine wp_seq_k fun K20 hK20=>?_
  refine SX.region_q0 [.ld [],.ld [12],.ld [],.ld []] [1,39,40,41] [(.e 1 (.P n5)),(.e 39 (.slice A2 c.contexts.length k2)),(.e 40 (.I ((c.contexts.length:Nat):Int))),(.e 41 (.I 0))] hR hM mix (by kernel_rfl) (by kernel_rfl) (by kernel_rfl) (by kernel_rfl) ?_
  clear hR hM; intro a21 w22 hR hb23 hM
  replace hB:=hB.tr hb23
  replace hkn5:=SX.blk_below hkn5 hb23
  refine hK20 _ _ ?_
  refine wp_block ?_
  refine wp_loop_ghost (fun m26 a' w'=>∃ k:Nat,m26=c.contexts.length-k∧k≤c.contexts.length∧SX.RSt 159 [] [(.e 1 (.P n5)),(.e 39 (.slice A2 c.contexts.length k2)),(.e 40 (.I ((c.contexts.length:Nat):Int))),(.e 41 (.I ((k:Nat):Int)))] a'∧Below w.heap.size w w'∧SX.Cells w' [(⟨bbx,box+0*10,none⟩,(.I x.params)),(⟨bbx,box+0*10+1,none⟩,(.slice B1x x.ops.length j1x)),(⟨bbx,box+0*10+2,none⟩,(.I x.term.kind)),(⟨bbx,box+0*10+3,none⟩,(.I x.term.a)),(⟨bbx,box+0*10+4,none⟩,(.I x.term.n)),(⟨bbx,box+0*10+5,none⟩,(.slice B2x x.term.args.length j2x)),(⟨bbx,box+0*10+6,none⟩,(.I x.term.b0)),(⟨bbx,box+0*10+7,none⟩,(.slice B3x x.term.args0.length j3x)),(⟨bbx,box+0*10+8,none⟩,(.I x.term.b1)),(⟨bbx,box+0*10+9,none⟩,(.slice B4x x.term.args1.length j4x)),(⟨n5,0,none⟩,(.I c.params)),(⟨n5,1,none⟩,(.slice (some ⟨bbx,box,none⟩) c.blocks.length k1)),(⟨n5,2,none⟩,(.slice A2 c.contexts.length k2)),(⟨n5,3,none⟩,(.slice A3 c.objects.length k3))]∧Upto c.contexts R.ctx1 (k)) (c.contexts.length-0) ⟨0,rfl,Nat.zero_le _,hR.keep (ts:=[1,39,40,41]) (by kernel_rfl),hB,hM,Upto.zero⟩ ?_
  clear hR hM hB
  rintro m26 a24 w25 ⟨k,hm26,hlek,hR,hB,hM,hIk⟩
  refine wp_seq_k fun K27 hK27=>?_
  refine SX.region_q0 [.ld []] [1,39,40,41,42] [(.e 1 (.P n5)),(.e 39 (.slice A2 c.contexts.length k2)),(.e 40 (.I ((c.contexts.length:Nat):Int))),(.e 41 (.I ((k:Nat):Int))),(.e 42 (.bool (decide (((k:Nat):Int)<((c.contexts.length:Nat):Int)))))] hR hM mix (by kernel_rfl) (by kernel_rfl) (by kernel_rfl) (by kernel_rfl) ?_
  clear hR hM; intro a28 w29 hR hb30 hM
  replace hB:=hB.tr hb30
  refine hK27 _ _ ?_
  refine wp_seq_k fun K31 hK31=>?_
  refine SX.cond_ (decide (((k:Nat):Int)<((c.contexts.length:Nat):Int))) hR (by kernel_rfl) (fun h32=>?_) (fun h32=>?_)
  ·skip
   refine wp_skip ?_
   refine hK31 _ _ ?_
   refine wp_seq_k fun K33 hK33=>?_
   refine wp_block ?_
   refine wp_seq_k fun K34 hK34=>?_
   have hlt:k<c.contexts.length:=lt_of_dec h32
   obtain ⟨y,hy⟩:=get_of_lt hlt
   obtain ⟨rby,roy,hAy,hiy,cr0y,cr1y,cr2y⟩:=h0.2.2.1.elem hy
   subst hAy
   have hoy:rby<w.heap.size:=World.block_lt_of_cell? w _ cr0y
   replace hM:=(SX.cells_add (cell_below hB cr0y) (SX.cells_add (cell_below hB cr1y) (SX.cells_add (cell_below hB cr2y) hM)))
   refine SX.region_l ?_
   refine SX.list_q (κ:=[]) 0 3 [.ld [],.ix ⟨rby,roy+k*3,none⟩,.ld [0,1,2]] [1,39,40,41,43,45] [(.e 1 (.P n5)),(.e 39 (.slice (some ⟨rby,roy,none⟩) c.contexts.length k2)),(.e 40 (.I ((c.contexts.length:Nat):Int))),(.e 41 (.I ((k:Nat):Int))),(.e 43 (.I ((k:Nat):Int))),(.e 45 (.agg #[.I y.1,.I y.2.1,.I y.2.2]))] [([],⟨rby,roy,none⟩,c.contexts.length,((k:Nat):Int),3,⟨rby,roy+k*3,none⟩)] [] [] [] hR hM (by kernel_rfl) (by kernel_rfl) ⟨fun hg=>SX.ix_ok (by omega),trivial⟩ trivial (fun w' hb' hM'=>trivial) (fun w' hb' hM'=>trivial) ?_
   clear hR hM; intro a35 w36 hR hb37 hM
   replace hB:=hB.tr hb37
   obtain ⟨n41,hn41⟩:∃ n,w36.heap.size=n:=⟨_,rfl⟩
   have hzn41:w.heap.size≤n41:=by have:=hB.size; omega
   refine SX.list_alloc 3 n41 [(.I 0),(.I 0),(.I 0)] 99 ((.e 4 (.P n41))::[(.e 1 (.P n5)),(.e 39 (.slice (some ⟨rby,roy,none⟩) c.contexts.length k2)),(.e 40 (.I ((c.contexts.length:Nat):Int))),(.e 41 (.I ((k:Nat):Int))),(.e 43 (.I ((k:Nat):Int))),(.e 45 (.agg #[.I y.1,.I y.2.1,.I y.2.2]))]) hR hM hn41 (by kernel_rfl) ?_
   clear hR hM; intro a38 w39 hR hb40 hM hkn41 hln41 hnen41
   replace hB:=hB.tr hb40
   replace hR:SX.RSt 159 [] [(.e 1 (.P n5)),(.e 4 (.P n41)),(.e 39 (.slice (some ⟨rby,roy,none⟩) c.contexts.length k2)),(.e 40 (.I ((c.contexts.length:Nat):Int))),(.e 41 (.I ((k:Nat):Int))),(.e 43 (.I ((k:Nat):Int))),(.e 45 (.agg #[.I y.1,.I y.2.1,.I y.2.2]))] a38:=hR.keep (ts:=[1,4,39,40,41,43,45]) (by kernel_rfl)
   refine SX.list_q0 (κ:=[]) 4 1 [.ld []] [1,3,4,39,40,41,45] [(.e 1 (.P n5)),(.e 3 (.I ((k:Nat):Int))),(.e 4 (.P n41)),(.e 39 (.slice (some ⟨rby,roy,none⟩) c.contexts.length k2)),(.e 40 (.I ((c.contexts.length:Nat):Int))),(.e 41 (.I ((k:Nat):Int))),(.e 45 (.agg #[.I y.1,.I y.2.1,.I y.2.2]))] hR hM (by kernel_rfl) (by kernel_rfl) ?_
   clear hR hM; intro a42 w43 hR hb44 hM
   replace hB:=hB.tr hb44
   replace hkn41:=SX.blk_below hkn41 hb44
   refine SX.list_store 5 [(0,(.I y.1)),(1,(.I y.2.1)),(2,(.I y.2.2))] [(.I y.1),(.I y.2.1),(.I y.2.2)] [(⟨rby,roy+k*3,none⟩,(.I y.1)),(⟨rby,roy+k*3+1,none⟩,(.I y.2.1)),(⟨rby,roy+k*3+2,none⟩,(.I y.2.2)),(⟨bbx,box+0*10,none⟩,(.I x.params)),(⟨bbx,box+0*10+1,none⟩,(.slice B1x x.ops.length j1x)),(⟨bbx,box+0*10+2,none⟩,(.I x.term.kind)),(⟨bbx,box+0*10+3,none⟩,(.I x.term.a)),(⟨bbx,box+0*10+4,none⟩,(.I x.term.n)),(⟨bbx,box+0*10+5,none⟩,(.slice B2x x.term.args.length j2x)),(⟨bbx,box+0*10+6,none⟩,(.I x.term.b0)),(⟨bbx,box+0*10+7,none⟩,(.slice B3x x.term.args0.length j3x)),(⟨bbx,box+0*10+8,none⟩,(.I x.term.b1)),(⟨bbx,box+0*10+9,none⟩,(.slice B4x x.term.args1.length j4x)),(⟨n5,0,none⟩,(.I c.params)),(⟨n5,1,none⟩,(.slice (some ⟨bbx,box,none⟩) c.blocks.length k1)),(⟨n5,2,none⟩,(.slice (some ⟨rby,roy,none⟩) c.contexts.length k2)),(⟨n5,3,none⟩,(.slice A3 c.objects.length k3))] [(⟨n41,0,none⟩,(.I y.1)),(⟨n41,1,none⟩,(.I y.2.1)),(⟨n41,2,none⟩,(.I y.2.2)),(⟨rby,roy+k*3,none⟩,(.I y.1)),(⟨rby,roy+k*3+1,none⟩,(.I y.2.1)),(⟨rby,roy+k*3+2,none⟩,(.I y.2.2)),(⟨bbx,box+0*10,none⟩,(.I x.params)),(⟨bbx,box+0*10+1,none⟩,(.slice B1x x.ops.length j1x)),(⟨bbx,box+0*10+2,none⟩,(.I x.term.kind)),(⟨bbx,box+0*10+3,none⟩,(.I x.term.a)),(⟨bbx,box+0*10+4,none⟩,(.I x.term.n)),(⟨bbx,box+0*10+5,none⟩,(.slice B2x x.term.args.length j2x)),(⟨bbx,box+0*10+6,none⟩,(.I x.term.b0)),(⟨bbx,box+0*10+7,none⟩,(.slice B3x x.term.args0.length j3x)),(⟨bbx,box+0*10+8,none⟩,(.I x.term.b1)),(⟨bbx,box+0*10+9,none⟩,(.slice B4x x.term.args1.length j4x)),(⟨n5,0,none⟩,(.I c.params)),(⟨n5,1,none⟩,(.slice (some ⟨bbx,box,none⟩) c.blocks.length k1)),(⟨n5,2,none⟩,(.slice (some ⟨rby,roy,none⟩) c.contexts.length k2)),(⟨n5,3,none⟩,(.slice A3 c.objects.length k3))] hR (SX.cells_sub hM [0,1,2,3,4,5,6,7,8,9,10,11,12,13,14,15,16] (by kernel_rfl)) hnen41 hkn41 (by kernel_rfl) (by kernel_rfl) (by kernel_rfl) ?_
   clear hR hM hkn41; intro a45 w46 hR hb47 hM hkn41
   replace hB:=hB.trans (hb47.below (by omega))
   refine SX.list_end 6 (by kernel_rfl) ?_
   refine hK34 _ _ ?_
   refine wp_seq_k fun K48 hK48=>?_
   refine SX.region_q [(3,decide (y.2.2<0)),(8,(decide (y.2.2<0)||decide (8≤y.2.2))),(11,(((k:Nat):Int)==0)),(15,(y.1 != (-1))),(22,((decide (y.2.2<0)||decide (8≤y.2.2))||((((k:Nat):Int)==0)&&((y.1 != (-1))||(y.2.1 != (-1)))))),(25,decide (0<((k:Nat):Int))),(29,decide (y.1<0)),(35,(decide (y.1<0)||decide (((k:Nat):Int)≤y.1))),(40,((decide (y.1<0)||decide (((k:Nat):Int)≤y.1))||decide (y.2.1<0)))] [.ld [],.ld [2],.ld [],.ld [],.ld [],.ld [2],.ld [],.pk,.ld [],.ld [],.ld [],.ld [],.ld [],.ld [0],.ld [],.ld [],.ld [],.ld [1],.ld [],.pk,.pk,.pk,.ld [],.ld [],.ld [],.ld [],.ld [],.ld [0],.ld [],.ld [],.ld [],.ld [0],.ld [],.ld [],.pk,.ld [],.ld [],.ld [1],.ld [],.pk,.ld [],.ld [],.ld [1],.ld [],.pk,.pk,.pk] [1,39,40,41,92] [(.e 1 (.P n5)),(.e 39 (.slice (some ⟨rby,roy,none⟩) c.contexts.length k2)),(.e 40 (.I ((c.contexts.length:Nat):Int))),(.e 41 (.I ((k:Nat):Int))),(.e 92 (.bool (((decide (y.2.2<0)||decide (8≤y.2.2))||((((k:Nat):Int)==0)&&((y.1 != (-1))||(y.2.1 != (-1)))))||(decide (0<((k:Nat):Int))&&(((decide (y.1<0)||decide (((k:Nat):Int)≤y.1))||decide (y.2.1<0))||decide (9999<y.2.1))))))] [] [] [] [] hR hM mix (by kernel_rfl) (by kernel_rfl) (by kernel_rfl) (by kernel_rfl) trivial trivial (fun w' hb' hM'=>trivial) (fun w' hb' hM'=>trivial) ?_
   clear hR hM; intro a49 w50 hR hb51 hM
   replace hB:=hB.tr hb51
   replace hkn41:=SX.blk_below hkn41 hb51
   refine hK48 _ _ ?_
   refine SX.cond_ (((decide (y.2.2<0)||decide (8≤y.2.2))||((((k:Nat):Int)==0)&&((y.1 != (-1))||(y.2.1 != (-1)))))||(decide (0<((k:Nat):Int))&&(((decide (y.1<0)||decide (((k:Nat):Int)≤y.1))||decide (y.2.1<0))||decide (9999<y.2.1)))) hR (by kernel_rfl) (fun h52=>?_) (fun h52=>?_)
   ·skip
    refine wp_seq_k fun K53 hK53=>?_
    refine SX.region_q0 [.ld []] [1,2,39,40,41] [(.e 1 (.P n5)),(.e 2 (.bool false)),(.e 39 (.slice (some ⟨rby,roy,none⟩) c.contexts.length k2)),(.e 40 (.I ((c.contexts.length:Nat):Int))),(.e 41 (.I ((k:Nat):Int)))] hR hM mix (by kernel_rfl) (by kernel_rfl) (by kernel_rfl) (by kernel_rfl) ?_
    clear hR hM; intro a54 w55 hR hb56 hM
    replace hB:=hB.tr hb56
    replace hkn41:=SX.blk_below hkn41 hb56
    refine hK53 _ _ ?_
    refine wp_ret ?_
    try simp only [Exit.then,Exit.inBlock,Nat.reduceEqDiff,↓reduceIte]
    refine SX.ret_ 2 (.bool false) Try.results57 hR (by kernel_rfl) ?_
    clear hR hM mix hK1 hzn5 hb4 hkn5 hln5 hn5 hb8 hK9 hK10 hb13 hK19 hK20 hb23 hm26 hK27 hb30 hK31 hK33 hK34 hb37 hzn41 hb40 hkn41 hln41 hn41 hnen41 hb44 hb47 hK48 hb51 hK53 hb56
    refine ⟨ret_bool ?_,hB⟩
    unfold R.heads
    rw [show R.paramsAt c 0=x.params from params_at (i:=0) hx]
    have e1:(((c.blocks.length:Nat):Int)==0)=(c.blocks.length==0):=by rw [Bool.eq_iff_iff]; simp
    have e2:(((c.contexts.length:Nat):Int)==0)=(c.contexts.length==0):=by rw [Bool.eq_iff_iff]; simp
    rw [e1,e2] at h14
    rw [h14]
    unfold R.ctxs; rw [← allAt_no hy (p:=R.ctx1) (by have:=h52; rw [ctxR_eq] at this; simpa using this)]; rfl
   ·skip
    refine wp_skip ?_
    refine hK33 _ _ ?_
    refine SX.region_q [] [.nm (.I ((k+1:Nat):Int)),.ld []] [1,39,40,41] [(.e 1 (.P n5)),(.e 39 (.slice (some ⟨rby,roy,none⟩) c.contexts.length k2)),(.e 40 (.I ((c.contexts.length:Nat):Int))),(.e 41 (.I ((k+1:Nat):Int)))] [] [] [] [([],(.I (IntKind.i64.wrap (((k:Nat):Int)+1))),(.I ((k+1:Nat):Int)))] hR hM mix (by kernel_rfl) (by kernel_rfl) (by kernel_rfl) (by kernel_rfl) trivial ⟨fun hg=>SX.wrap_ok (by omega),trivial⟩ (fun w' hb' hM'=>trivial) (fun w' hb' hM'=>trivial) ?_
    clear hR hM; intro a57 w58 hR hb59 hM
    replace hB:=hB.tr hb59
    replace hkn41:=SX.blk_below hkn41 hb59
    exact ⟨c.contexts.length-(k+1),by omega,k+1,rfl,by omega,hR.keep (ts:=[1,39,40,41]) (by kernel_rfl),hB,SX.cells_sub hM [6,7,8,9,10,11,12,13,14,15,16,17,18,19] (by kernel_rfl),hIk.step hy (by have:=h52; rw [ctxR_eq] at this; simpa using this)⟩
  ·skip
   refine wp_exit ?_
   refine hK19 _ _ ?_
   refine wp_seq_k fun K60 hK60=>?_
   refine wp_seq_k fun K61 hK61=>?_
   have hctx:=hIk.allAt (le_of_dec h32)
   refine SX.region_q0 [.ld [],.ld [13],.ld [],.ld []] [1,39,40,41,95,96,97] [(.e 1 (.P n5)),(.e 39 (.slice A2 c.contexts.length k2)),(.e 40 (.I ((c.contexts.length:Nat):Int))),(.e 41 (.I ((k:Nat):Int))),(.e 95 (.slice A3 c.objects.length k3)),(.e 96 (.I ((c.objects.length:Nat):Int))),(.e 97 (.I 0))] hR hM mix (by kernel_rfl) (by kernel_rfl) (by kernel_rfl) (by kernel_rfl) ?_
   clear hR hM; intro a62 w63 hR hb64 hM
   replace hB:=hB.tr hb64
   refine hK61 _ _ ?_
   refine wp_block ?_
   refine wp_loop_ghost (fun m67 a' w'=>∃ m:Nat,m67=c.objects.length-m∧m≤c.objects.length∧SX.RSt 159 [] [(.e 1 (.P n5)),(.e 39 (.slice A2 c.contexts.length k2)),(.e 40 (.I ((c.contexts.length:Nat):Int))),(.e 41 (.I ((k:Nat):Int))),(.e 95 (.slice A3 c.objects.length k3)),(.e 96 (.I ((c.objects.length:Nat):Int))),(.e 97 (.I ((m:Nat):Int)))] a'∧Below w.heap.size w w'∧SX.Cells w' [(⟨bbx,box+0*10,none⟩,(.I x.params)),(⟨bbx,box+0*10+1,none⟩,(.slice B1x x.ops.length j1x)),(⟨bbx,box+0*10+2,none⟩,(.I x.term.kind)),(⟨bbx,box+0*10+3,none⟩,(.I x.term.a)),(⟨bbx,box+0*10+4,none⟩,(.I x.term.n)),(⟨bbx,box+0*10+5,none⟩,(.slice B2x x.term.args.length j2x)),(⟨bbx,box+0*10+6,none⟩,(.I x.term.b0)),(⟨bbx,box+0*10+7,none⟩,(.slice B3x x.term.args0.length j3x)),(⟨bbx,box+0*10+8,none⟩,(.I x.term.b1)),(⟨bbx,box+0*10+9,none⟩,(.slice B4x x.term.args1.length j4x)),(⟨n5,0,none⟩,(.I c.params)),(⟨n5,1,none⟩,(.slice (some ⟨bbx,box,none⟩) c.blocks.length k1)),(⟨n5,2,none⟩,(.slice A2 c.contexts.length k2)),(⟨n5,3,none⟩,(.slice A3 c.objects.length k3))]∧Upto c.objects (fun i x=>R.obj1 c.contexts.length x&&(c.objects.take i).all (fun y=>!(y.1==x.1&&y.2.1==x.2.1))) (m)) (c.objects.length-0) ⟨0,rfl,Nat.zero_le _,hR.keep (ts:=[1,39,40,41,95,96,97]) (by kernel_rfl),hB,hM,Upto.zero⟩ ?_
   clear hR hM hB
   rintro m67 a65 w66 ⟨m,hm67,hlem,hR,hB,hM,hIm⟩
   refine wp_seq_k fun K68 hK68=>?_
   refine SX.region_q0 [.ld []] [1,39,40,41,95,96,97,98] [(.e 1 (.P n5)),(.e 39 (.slice A2 c.contexts.length k2)),(.e 40 (.I ((c.contexts.length:Nat):Int))),(.e 41 (.I ((k:Nat):Int))),(.e 95 (.slice A3 c.objects.length k3)),(.e 96 (.I ((c.objects.length:Nat):Int))),(.e 97 (.I ((m:Nat):Int))),(.e 98 (.bool (decide (((m:Nat):Int)<((c.objects.length:Nat):Int)))))] hR hM mix (by kernel_rfl) (by kernel_rfl) (by kernel_rfl) (by kernel_rfl) ?_
   clear hR hM; intro a69 w70 hR hb71 hM
   replace hB:=hB.tr hb71
   refine hK68 _ _ ?_
   refine wp_seq_k fun K72 hK72=>?_
   refine SX.cond_ (decide (((m:Nat):Int)<((c.objects.length:Nat):Int))) hR (by kernel_rfl) (fun h73=>?_) (fun h73=>?_)
   ·skip
    refine wp_skip ?_
    refine hK72 _ _ ?_
    refine wp_seq_k fun K74 hK74=>?_
    refine wp_block ?_
    refine wp_seq_k fun K75 hK75=>?_
    have hlt:m<c.objects.length:=lt_of_dec h73
    obtain ⟨z,hz⟩:=get_of_lt hlt
    obtain ⟨rbz,roz,hAz,hiz,cr0z,cr1z,cr2z⟩:=h0.2.2.2.elem hz
    subst hAz
    have hoz:rbz<w.heap.size:=World.block_lt_of_cell? w _ cr0z
    replace hM:=(SX.cells_add (cell_below hB cr0z) (SX.cells_add (cell_below hB cr1z) (SX.cells_add (cell_below hB cr2z) hM)))
    refine SX.region_l ?_
    refine SX.list_q (κ:=[]) 0 3 [.ld [],.ix ⟨rbz,roz+m*3,none⟩,.ld [0,1,2]] [1,39,40,41,95,96,97,99,101] [(.e 1 (.P n5)),(.e 39 (.slice A2 c.contexts.length k2)),(.e 40 (.I ((c.contexts.length:Nat):Int))),(.e 41 (.I ((k:Nat):Int))),(.e 95 (.slice (some ⟨rbz,roz,none⟩) c.objects.length k3)),(.e 96 (.I ((c.objects.length:Nat):Int))),(.e 97 (.I ((m:Nat):Int))),(.e 99 (.I ((m:Nat):Int))),(.e 101 (.agg #[.I z.1,.I z.2.1,.I z.2.2]))] [([],⟨rbz,roz,none⟩,c.objects.length,((m:Nat):Int),3,⟨rbz,roz+m*3,none⟩)] [] [] [] hR hM (by kernel_rfl) (by kernel_rfl) ⟨fun hg=>SX.ix_ok (by omega),trivial⟩ trivial (fun w' hb' hM'=>trivial) (fun w' hb' hM'=>trivial) ?_
    clear hR hM; intro a76 w77 hR hb78 hM
    replace hB:=hB.tr hb78
    obtain ⟨n82,hn82⟩:∃ n,w77.heap.size=n:=⟨_,rfl⟩
    have hzn82:w.heap.size≤n82:=by have:=hB.size; omega
    refine SX.list_alloc 3 n82 [(.I 0),(.I 0),(.I 0)] 102 ((.e 6 (.P n82))::[(.e 1 (.P n5)),(.e 39 (.slice A2 c.contexts.length k2)),(.e 40 (.I ((c.contexts.length:Nat):Int))),(.e 41 (.I ((k:Nat):Int))),(.e 95 (.slice (some ⟨rbz,roz,none⟩) c.objects.length k3)),(.e 96 (.I ((c.objects.length:Nat):Int))),(.e 97 (.I ((m:Nat):Int))),(.e 99 (.I ((m:Nat):Int))),(.e 101 (.agg #[.I z.1,.I z.2.1,.I z.2.2]))]) hR hM hn82 (by kernel_rfl) ?_
    clear hR hM; intro a79 w80 hR hb81 hM hkn82 hln82 hnen82
    replace hB:=hB.tr hb81
    replace hR:SX.RSt 159 [] [(.e 1 (.P n5)),(.e 6 (.P n82)),(.e 39 (.slice A2 c.contexts.length k2)),(.e 40 (.I ((c.contexts.length:Nat):Int))),(.e 41 (.I ((k:Nat):Int))),(.e 95 (.slice (some ⟨rbz,roz,none⟩) c.objects.length k3)),(.e 96 (.I ((c.objects.length:Nat):Int))),(.e 97 (.I ((m:Nat):Int))),(.e 99 (.I ((m:Nat):Int))),(.e 101 (.agg #[.I z.1,.I z.2.1,.I z.2.2]))] a79:=hR.keep (ts:=[1,6,39,40,41,95,96,97,99,101]) (by kernel_rfl)
    refine SX.list_q0 (κ:=[]) 4 1 [.ld []] [1,5,6,39,40,41,95,96,97,101] [(.e 1 (.P n5)),(.e 5 (.I ((m:Nat):Int))),(.e 6 (.P n82)),(.e 39 (.slice A2 c.contexts.length k2)),(.e 40 (.I ((c.contexts.length:Nat):Int))),(.e 41 (.I ((k:Nat):Int))),(.e 95 (.slice (some ⟨rbz,roz,none⟩) c.objects.length k3)),(.e 96 (.I ((c.objects.length:Nat):Int))),(.e 97 (.I ((m:Nat):Int))),(.e 101 (.agg #[.I z.1,.I z.2.1,.I z.2.2]))] hR hM (by kernel_rfl) (by kernel_rfl) ?_
    clear hR hM; intro a83 w84 hR hb85 hM
    replace hB:=hB.tr hb85
    replace hkn82:=SX.blk_below hkn82 hb85
    refine SX.list_store 5 [(0,(.I z.1)),(1,(.I z.2.1)),(2,(.I z.2.2))] [(.I z.1),(.I z.2.1),(.I z.2.2)] [(⟨rbz,roz+m*3,none⟩,(.I z.1)),(⟨rbz,roz+m*3+1,none⟩,(.I z.2.1)),(⟨rbz,roz+m*3+2,none⟩,(.I z.2.2)),(⟨bbx,box+0*10,none⟩,(.I x.params)),(⟨bbx,box+0*10+1,none⟩,(.slice B1x x.ops.length j1x)),(⟨bbx,box+0*10+2,none⟩,(.I x.term.kind)),(⟨bbx,box+0*10+3,none⟩,(.I x.term.a)),(⟨bbx,box+0*10+4,none⟩,(.I x.term.n)),(⟨bbx,box+0*10+5,none⟩,(.slice B2x x.term.args.length j2x)),(⟨bbx,box+0*10+6,none⟩,(.I x.term.b0)),(⟨bbx,box+0*10+7,none⟩,(.slice B3x x.term.args0.length j3x)),(⟨bbx,box+0*10+8,none⟩,(.I x.term.b1)),(⟨bbx,box+0*10+9,none⟩,(.slice B4x x.term.args1.length j4x)),(⟨n5,0,none⟩,(.I c.params)),(⟨n5,1,none⟩,(.slice (some ⟨bbx,box,none⟩) c.blocks.length k1)),(⟨n5,2,none⟩,(.slice A2 c.contexts.length k2)),(⟨n5,3,none⟩,(.slice (some ⟨rbz,roz,none⟩) c.objects.length k3))] [(⟨n82,0,none⟩,(.I z.1)),(⟨n82,1,none⟩,(.I z.2.1)),(⟨n82,2,none⟩,(.I z.2.2)),(⟨rbz,roz+m*3,none⟩,(.I z.1)),(⟨rbz,roz+m*3+1,none⟩,(.I z.2.1)),(⟨rbz,roz+m*3+2,none⟩,(.I z.2.2)),(⟨bbx,box+0*10,none⟩,(.I x.params)),(⟨bbx,box+0*10+1,none⟩,(.slice B1x x.ops.length j1x)),(⟨bbx,box+0*10+2,none⟩,(.I x.term.kind)),(⟨bbx,box+0*10+3,none⟩,(.I x.term.a)),(⟨bbx,box+0*10+4,none⟩,(.I x.term.n)),(⟨bbx,box+0*10+5,none⟩,(.slice B2x x.term.args.length j2x)),(⟨bbx,box+0*10+6,none⟩,(.I x.term.b0)),(⟨bbx,box+0*10+7,none⟩,(.slice B3x x.term.args0.length j3x)),(⟨bbx,box+0*10+8,none⟩,(.I x.term.b1)),(⟨bbx,box+0*10+9,none⟩,(.slice B4x x.term.args1.length j4x)),(⟨n5,0,none⟩,(.I c.params)),(⟨n5,1,none⟩,(.slice (some ⟨bbx,box,none⟩) c.blocks.length k1)),(⟨n5,2,none⟩,(.slice A2 c.contexts.length k2)),(⟨n5,3,none⟩,(.slice (some ⟨rbz,roz,none⟩) c.objects.length k3))] hR (SX.cells_sub hM [0,1,2,3,4,5,6,7,8,9,10,11,12,13,14,15,16] (by kernel_rfl)) hnen82 hkn82 (by kernel_rfl) (by kernel_rfl) (by kernel_rfl) ?_
    clear hR hM hkn82; intro a86 w87 hR hb88 hM hkn82
    replace hB:=hB.trans (hb88.below (by omega))
    refine SX.list_end 6 (by kernel_rfl) ?_
    refine hK75 _ _ ?_
    refine wp_seq_k fun K89 hK89=>?_
    refine wp_seq_k fun K90 hK90=>?_
    refine SX.region_q [(3,decide (z.1<0)),(11,(decide (z.1<0)||decide (((c.contexts.length:Nat):Int)≤z.1))),(16,((decide (z.1<0)||decide (((c.contexts.length:Nat):Int)≤z.1))||decide (z.2.1<0))),(21,(((decide (z.1<0)||decide (((c.contexts.length:Nat):Int)≤z.1))||decide (z.2.1<0))||decide (24≤z.2.1))),(26,((((decide (z.1<0)||decide (((c.contexts.length:Nat):Int)≤z.1))||decide (z.2.1<0))||decide (24≤z.2.1))||decide (z.2.2<1)))] [.ld [],.ld [0],.ld [],.ld [],.ld [],.ld [0],.ld [],.ld [18],.ld [],.ld [],.pk,.ld [],.ld [],.ld [1],.ld [],.pk,.ld [],.ld [],.ld [1],.ld [],.pk,.ld [],.ld [],.ld [2],.ld [],.pk,.ld [],.ld [],.ld [2],.ld [],.pk] [1,5,6,39,40,41,95,96,97,132] [(.e 1 (.P n5)),(.e 5 (.I ((m:Nat):Int))),(.e 6 (.P n82)),(.e 39 (.slice A2 c.contexts.length k2)),(.e 40 (.I ((c.contexts.length:Nat):Int))),(.e 41 (.I ((k:Nat):Int))),(.e 95 (.slice (some ⟨rbz,roz,none⟩) c.objects.length k3)),(.e 96 (.I ((c.objects.length:Nat):Int))),(.e 97 (.I ((m:Nat):Int))),(.e 132 (.bool (((((decide (z.1<0)||decide (((c.contexts.length:Nat):Int)≤z.1))||decide (z.2.1<0))||decide (24≤z.2.1))||decide (z.2.2<1))||decide (8<z.2.2))))] [] [] [] [] hR hM mix (by kernel_rfl) (by kernel_rfl) (by kernel_rfl) (by kernel_rfl) trivial trivial (fun w' hb' hM'=>trivial) (fun w' hb' hM'=>trivial) ?_
    clear hR hM; intro a91 w92 hR hb93 hM
    replace hB:=hB.tr hb93
    replace hkn82:=SX.blk_below hkn82 hb93
    refine hK90 _ _ ?_
    refine SX.cond_ (((((decide (z.1<0)||decide (((c.contexts.length:Nat):Int)≤z.1))||decide (z.2.1<0))||decide (24≤z.2.1))||decide (z.2.2<1))||decide (8<z.2.2)) hR (by kernel_rfl) (fun h94=>?_) (fun h94=>?_)
    ·skip
     refine wp_seq_k fun K95 hK95=>?_
     refine SX.region_q0 [.ld []] [1,2,39,40,41,95,96,97] [(.e 1 (.P n5)),(.e 2 (.bool false)),(.e 39 (.slice A2 c.contexts.length k2)),(.e 40 (.I ((c.contexts.length:Nat):Int))),(.e 41 (.I ((k:Nat):Int))),(.e 95 (.slice (some ⟨rbz,roz,none⟩) c.objects.length k3)),(.e 96 (.I ((c.objects.length:Nat):Int))),(.e 97 (.I ((m:Nat):Int)))] hR hM mix (by kernel_rfl) (by kernel_rfl) (by kernel_rfl) (by kernel_rfl) ?_
     clear hR hM; intro a96 w97 hR hb98 hM
     replace hB:=hB.tr hb98
     replace hkn82:=SX.blk_below hkn82 hb98
     refine hK95 _ _ ?_
     refine wp_ret ?_
     try simp only [Exit.then,Exit.inBlock,Nat.reduceEqDiff,↓reduceIte]
     refine SX.ret_ 2 (.bool false) Try.results57 hR (by kernel_rfl) ?_
     clear hR hM mix hK1 hzn5 hb4 hkn5 hln5 hn5 hb8 hK9 hK10 hb13 hK19 hK20 hb23 hm26 hK27 hb30 hK31 hK60 hK61 hb64 hm67 hK68 hb71 hK72 hK74 hK75 hb78 hzn82 hb81 hkn82 hln82 hn82 hnen82 hb85 hb88 hK89 hK90 hb93 hK95 hb98
     refine ⟨ret_bool ?_,hB⟩
     unfold R.heads
     rw [show R.paramsAt c 0=x.params from params_at (i:=0) hx]
     have e1:(((c.blocks.length:Nat):Int)==0)=(c.blocks.length==0):=by rw [Bool.eq_iff_iff]; simp
     have e2:(((c.contexts.length:Nat):Int)==0)=(c.contexts.length==0):=by rw [Bool.eq_iff_iff]; simp
     rw [e1,e2] at h14
     rw [h14]
     unfold R.ctxs R.objs; rw [← hctx,← allAt_no hz (p:=fun i x=>R.obj1 c.contexts.length x&&(c.objects.take i).all (fun y=>!(y.1==x.1&&y.2.1==x.2.1))) (by have:=h94; rw [objR_eq] at this; rw [show R.obj1 c.contexts.length z=false from by simpa using this]; rfl)]; rfl
    ·skip
     refine wp_skip ?_
     refine hK89 _ _ ?_
     refine wp_seq_k fun K99 hK99=>?_
     refine SX.region_q0 [.ld []] [1,5,6,7,39,40,41,95,96,97] [(.e 1 (.P n5)),(.e 5 (.I ((m:Nat):Int))),(.e 6 (.P n82)),(.e 7 (.I 0)),(.e 39 (.slice A2 c.contexts.length k2)),(.e 40 (.I ((c.contexts.length:Nat):Int))),(.e 41 (.I ((k:Nat):Int))),(.e 95 (.slice (some ⟨rbz,roz,none⟩) c.objects.length k3)),(.e 96 (.I ((c.objects.length:Nat):Int))),(.e 97 (.I ((m:Nat):Int)))] hR hM mix (by kernel_rfl) (by kernel_rfl) (by kernel_rfl) (by kernel_rfl) ?_
     clear hR hM; intro a100 w101 hR hb102 hM
     replace hB:=hB.tr hb102
     replace hkn82:=SX.blk_below hkn82 hb102
     refine hK99 _ _ ?_
     refine wp_block ?_
     refine wp_loop_ghost (fun m105 a' w'=>∃ j:Nat,m105=m-j∧j≤m∧SX.RSt 159 [] [(.e 1 (.P n5)),(.e 5 (.I ((m:Nat):Int))),(.e 6 (.P n82)),(.e 7 (.I ((j:Nat):Int))),(.e 39 (.slice A2 c.contexts.length k2)),(.e 40 (.I ((c.contexts.length:Nat):Int))),(.e 41 (.I ((k:Nat):Int))),(.e 95 (.slice (some ⟨rbz,roz,none⟩) c.objects.length k3)),(.e 96 (.I ((c.objects.length:Nat):Int))),(.e 97 (.I ((m:Nat):Int)))] a'∧Below w.heap.size w w'∧SX.Cells w' [(⟨n82,0,none⟩,(.I z.1)),(⟨n82,1,none⟩,(.I z.2.1)),(⟨n82,2,none⟩,(.I z.2.2)),(⟨rbz,roz+m*3,none⟩,(.I z.1)),(⟨rbz,roz+m*3+1,none⟩,(.I z.2.1)),(⟨rbz,roz+m*3+2,none⟩,(.I z.2.2)),(⟨bbx,box+0*10,none⟩,(.I x.params)),(⟨bbx,box+0*10+1,none⟩,(.slice B1x x.ops.length j1x)),(⟨bbx,box+0*10+2,none⟩,(.I x.term.kind)),(⟨bbx,box+0*10+3,none⟩,(.I x.term.a)),(⟨bbx,box+0*10+4,none⟩,(.I x.term.n)),(⟨bbx,box+0*10+5,none⟩,(.slice B2x x.term.args.length j2x)),(⟨bbx,box+0*10+6,none⟩,(.I x.term.b0)),(⟨bbx,box+0*10+7,none⟩,(.slice B3x x.term.args0.length j3x)),(⟨bbx,box+0*10+8,none⟩,(.I x.term.b1)),(⟨bbx,box+0*10+9,none⟩,(.slice B4x x.term.args1.length j4x)),(⟨n5,0,none⟩,(.I c.params)),(⟨n5,1,none⟩,(.slice (some ⟨bbx,box,none⟩) c.blocks.length k1)),(⟨n5,2,none⟩,(.slice A2 c.contexts.length k2)),(⟨n5,3,none⟩,(.slice (some ⟨rbz,roz,none⟩) c.objects.length k3))]∧Upto c.objects (fun _ y=>!(y.1==z.1&&y.2.1==z.2.1)) (j)) (m-0) ⟨0,rfl,Nat.zero_le _,hR.keep (ts:=[1,5,6,7,39,40,41,95,96,97]) (by kernel_rfl),hB,hM,Upto.zero⟩ ?_
     clear hR hM hB
     rintro m105 a103 w104 ⟨j,hm105,hlej,hR,hB,hM,hIj⟩
     refine wp_seq_k fun K106 hK106=>?_
     refine wp_seq_k fun K107 hK107=>?_
     refine SX.region_q0 [.ld [],.ld [],.ld []] [1,5,6,7,39,40,41,95,96,97,135] [(.e 1 (.P n5)),(.e 5 (.I ((m:Nat):Int))),(.e 6 (.P n82)),(.e 7 (.I ((j:Nat):Int))),(.e 39 (.slice A2 c.contexts.length k2)),(.e 40 (.I ((c.contexts.length:Nat):Int))),(.e 41 (.I ((k:Nat):Int))),(.e 95 (.slice (some ⟨rbz,roz,none⟩) c.objects.length k3)),(.e 96 (.I ((c.objects.length:Nat):Int))),(.e 97 (.I ((m:Nat):Int))),(.e 135 (.bool (decide (((j:Nat):Int)<((m:Nat):Int)))))] hR hM mix (by kernel_rfl) (by kernel_rfl) (by kernel_rfl) (by kernel_rfl) ?_
     clear hR hM; intro a108 w109 hR hb110 hM
     replace hB:=hB.tr hb110
     refine hK107 _ _ ?_
     refine SX.cond_ (decide (((j:Nat):Int)<((m:Nat):Int))) hR (by kernel_rfl) (fun h111=>?_) (fun h111=>?_)
     ·skip
      refine wp_skip ?_
      refine hK106 _ _ ?_
      refine wp_seq_k fun K112 hK112=>?_
      refine wp_block ?_
      refine wp_seq_k fun K113 hK113=>?_
      have hlj:j<m:=lt_of_dec h111
      obtain ⟨x2,hx2⟩:=get_of_lt (l:=c.objects) (k:=j) (by omega)
      obtain ⟨rbq,roq,hAq,hiq,cr0q,cr1q,cr2q⟩:=h0.2.2.2.elem hx2
      obtain ⟨rfl,rfl⟩:rbz=rbq∧roz=roq:=by simpa using hAq
      replace hM:=(SX.cells_add (cell_below hB cr0q) (SX.cells_add (cell_below hB cr1q) (SX.cells_add (cell_below hB cr2q) hM)))
      have hjo:j<c.objects.length:=Nat.lt_trans hlj hlt
      refine SX.region_q [(9,(x2.1==z.1))] [.ld [],.ld [22],.ld [],.ix ⟨rbz,roz+j*3,none⟩,.ld [],.ld [0],.ld [],.ld [3],.ld [],.ld [],.ld [],.ld [22],.ld [],.ix ⟨rbz,roz+j*3,none⟩,.ld [],.ld [1],.ld [],.ld [4],.ld [],.pk] [1,5,6,7,39,40,41,95,96,97,157] [(.e 1 (.P n5)),(.e 5 (.I ((m:Nat):Int))),(.e 6 (.P n82)),(.e 7 (.I ((j:Nat):Int))),(.e 39 (.slice A2 c.contexts.length k2)),(.e 40 (.I ((c.contexts.length:Nat):Int))),(.e 41 (.I ((k:Nat):Int))),(.e 95 (.slice (some ⟨rbz,roz,none⟩) c.objects.length k3)),(.e 96 (.I ((c.objects.length:Nat):Int))),(.e 97 (.I ((m:Nat):Int))),(.e 157 (.bool ((x2.1==z.1)&&(x2.2.1==z.2.1))))] [([],⟨rbz,roz,none⟩,c.objects.length,((j:Nat):Int),3,⟨rbz,roz+j*3,none⟩),([(9,true)],⟨rbz,roz,none⟩,c.objects.length,((j:Nat):Int),3,⟨rbz,roz+j*3,none⟩)] [] [] [] hR hM mix (by kernel_rfl) (by kernel_rfl) (by kernel_rfl) (by kernel_rfl) ⟨fun hg=>SX.ix_ok hjo,fun hg=>SX.ix_ok hjo,trivial⟩ trivial (fun w' hb' hM'=>trivial) (fun w' hb' hM'=>trivial) ?_
      clear hR hM; intro a114 w115 hR hb116 hM
      replace hB:=hB.tr hb116
      refine hK113 _ _ ?_
      refine SX.cond_ ((x2.1==z.1)&&(x2.2.1==z.2.1)) hR (by kernel_rfl) (fun h117=>?_) (fun h117=>?_)
      ·skip
       refine wp_seq_k fun K118 hK118=>?_
       refine SX.region_q0 [.ld []] [1,2,5,6,7,39,40,41,95,96,97] [(.e 1 (.P n5)),(.e 2 (.bool false)),(.e 5 (.I ((m:Nat):Int))),(.e 6 (.P n82)),(.e 7 (.I ((j:Nat):Int))),(.e 39 (.slice A2 c.contexts.length k2)),(.e 40 (.I ((c.contexts.length:Nat):Int))),(.e 41 (.I ((k:Nat):Int))),(.e 95 (.slice (some ⟨rbz,roz,none⟩) c.objects.length k3)),(.e 96 (.I ((c.objects.length:Nat):Int))),(.e 97 (.I ((m:Nat):Int)))] hR hM mix (by kernel_rfl) (by kernel_rfl) (by kernel_rfl) (by kernel_rfl) ?_
       clear hR hM; intro a119 w120 hR hb121 hM
       replace hB:=hB.tr hb121
       refine hK118 _ _ ?_
       refine wp_ret ?_
       try simp only [Exit.then,Exit.inBlock,Nat.reduceEqDiff,↓reduceIte]
       refine SX.ret_ 2 (.bool false) Try.results57 hR (by kernel_rfl) ?_
       clear hR hM mix hK1 hzn5 hb4 hkn5 hln5 hn5 hb8 hK9 hK10 hb13 hK19 hK20 hb23 hm26 hK27 hb30 hK31 hK60 hK61 hb64 hm67 hK68 hb71 hK72 hK74 hK75 hb78 hzn82 hb81 hkn82 hln82 hn82 hnen82 hb85 hb88 hK89 hK90 hb93 hK99 hb102 hm105 hK106 hK107 hb110 hK112 hK113 hb116 hK118 hb121
       refine ⟨ret_bool ?_,hB⟩
       unfold R.heads
       rw [show R.paramsAt c 0=x.params from params_at (i:=0) hx]
       have e1:(((c.blocks.length:Nat):Int)==0)=(c.blocks.length==0):=by rw [Bool.eq_iff_iff]; simp
       have e2:(((c.contexts.length:Nat):Int)==0)=(c.contexts.length==0):=by rw [Bool.eq_iff_iff]; simp
       rw [e1,e2] at h14
       rw [h14]
       unfold R.ctxs R.objs; rw [← hctx,← allAt_no hz (p:=fun i x=>R.obj1 c.contexts.length x&&(c.objects.take i).all (fun y=>!(y.1==x.1&&y.2.1==x.2.1))) (by rw [take_no hx2 hlj (by rw [h117]; rfl),Bool.and_false])]; rfl
      ·skip
       refine wp_skip ?_
       refine hK112 _ _ ?_
       refine SX.region_q [] [.ld [],.nm (.I ((j+1:Nat):Int)),.ld []] [1,5,6,7,39,40,41,95,96,97] [(.e 1 (.P n5)),(.e 5 (.I ((m:Nat):Int))),(.e 6 (.P n82)),(.e 7 (.I ((j+1:Nat):Int))),(.e 39 (.slice A2 c.contexts.length k2)),(.e 40 (.I ((c.contexts.length:Nat):Int))),(.e 41 (.I ((k:Nat):Int))),(.e 95 (.slice (some ⟨rbz,roz,none⟩) c.objects.length k3)),(.e 96 (.I ((c.objects.length:Nat):Int))),(.e 97 (.I ((m:Nat):Int)))] [] [] [] [([],(.I (IntKind.i64.wrap (((j:Nat):Int)+1))),(.I ((j+1:Nat):Int)))] hR hM mix (by kernel_rfl) (by kernel_rfl) (by kernel_rfl) (by kernel_rfl) trivial ⟨fun hg=>SX.wrap_ok (by omega),trivial⟩ (fun w' hb' hM'=>trivial) (fun w' hb' hM'=>trivial) ?_
       clear hR hM; intro a122 w123 hR hb124 hM
       replace hB:=hB.tr hb124
       exact ⟨m-(j+1),by omega,j+1,rfl,by omega,hR.keep (ts:=[1,5,6,7,39,40,41,95,96,97]) (by kernel_rfl),hB,SX.cells_sub hM [3,4,5,6,7,8,9,10,11,12,13,14,15,16,17,18,19,20,21,22] (by kernel_rfl),hIj.step hx2 (by rw [h117]; rfl)⟩
     ·skip
      refine wp_exit ?_
      refine hK74 _ _ ?_
      refine SX.region_q [] [.nm (.I ((m+1:Nat):Int)),.ld []] [1,5,6,7,39,40,41,95,96,97] [(.e 1 (.P n5)),(.e 5 (.I ((m:Nat):Int))),(.e 6 (.P n82)),(.e 7 (.I ((j:Nat):Int))),(.e 39 (.slice A2 c.contexts.length k2)),(.e 40 (.I ((c.contexts.length:Nat):Int))),(.e 41 (.I ((k:Nat):Int))),(.e 95 (.slice (some ⟨rbz,roz,none⟩) c.objects.length k3)),(.e 96 (.I ((c.objects.length:Nat):Int))),(.e 97 (.I ((m+1:Nat):Int)))] [] [] [] [([],(.I (IntKind.i64.wrap (((m:Nat):Int)+1))),(.I ((m+1:Nat):Int)))] hR hM mix (by kernel_rfl) (by kernel_rfl) (by kernel_rfl) (by kernel_rfl) trivial ⟨fun hg=>SX.wrap_ok (by omega),trivial⟩ (fun w' hb' hM'=>trivial) (fun w' hb' hM'=>trivial) ?_
      clear hR hM; intro a125 w126 hR hb127 hM
      replace hB:=hB.tr hb127
      exact ⟨c.objects.length-(m+1),by omega,m+1,rfl,by omega,hR.keep (ts:=[1,39,40,41,95,96,97]) (by kernel_rfl),hB,SX.cells_sub hM [6,7,8,9,10,11,12,13,14,15,16,17,18,19] (by kernel_rfl),hIm.step hz (by have:=h94; rw [objR_eq] at this; rw [show R.obj1 c.contexts.length z=true from by simpa using this,hIj.take_all (le_of_dec h111)]; rfl)⟩
   ·skip
    refine wp_exit ?_
    refine hK60 _ _ ?_
    refine wp_seq_k fun K128 hK128=>?_
    refine SX.region_q0 [.ld []] [1,2,39,40,41,95,96,97] [(.e 1 (.P n5)),(.e 2 (.bool true)),(.e 39 (.slice A2 c.contexts.length k2)),(.e 40 (.I ((c.contexts.length:Nat):Int))),(.e 41 (.I ((k:Nat):Int))),(.e 95 (.slice A3 c.objects.length k3)),(.e 96 (.I ((c.objects.length:Nat):Int))),(.e 97 (.I ((m:Nat):Int)))] hR hM mix (by kernel_rfl) (by kernel_rfl) (by kernel_rfl) (by kernel_rfl) ?_
    clear hR hM; intro a129 w130 hR hb131 hM
    replace hB:=hB.tr hb131
    refine hK128 _ _ ?_
    refine wp_ret ?_
    try simp only [Exit.then,Exit.inBlock,Nat.reduceEqDiff,↓reduceIte]
    refine SX.ret_ 2 (.bool true) Try.results57 hR (by kernel_rfl) ?_
    clear hR hM mix hK1 hzn5 hb4 hkn5 hln5 hn5 hb8 hK9 hK10 hb13 hK19 hK20 hb23 hm26 hK27 hb30 hK31 hK60 hK61 hb64 hm67 hK68 hb71 hK72 hK128 hb131
    refine ⟨ret_bool ?_,hB⟩
    unfold R.heads
    rw [show R.paramsAt c 0=x.params from params_at (i:=0) hx]
    have e1:(((c.blocks.length:Nat):Int)==0)=(c.blocks.length==0):=by rw [Bool.eq_iff_iff]; simp
    have e2:(((c.contexts.length:Nat):Int)==0)=(c.contexts.length==0):=by rw [Bool.eq_iff_iff]; simp
    rw [e1,e2] at h14
    rw [h14]
    unfold R.ctxs R.objs; rw [← hctx,← hIm.allAt (le_of_dec h73)]; rfl

set_option maxHeartbeats 400000 in
theorem heads_nil (c:CodeD) (v1 v2 v3:Value) (w:World) (h:CodeAt w v1 v2 v3 c) (hne:c.blocks.length=0):Calls Try.prog 57 #[(.agg #[.I c.params,v1,v2,v3])] w fun e w'=>e=.returned (.bool (R.heads c))∧Below w.heap.size w w':=by
 have h0:=h
 obtain ⟨A1,k1,rfl,s1⟩:=h.2.1.shape
 obtain ⟨A2,k2,rfl,s2⟩:=h.2.2.1.shape
 obtain ⟨A3,k3,rfl,s3⟩:=h.2.2.2.shape
 unfold Shape at s1 s2 s3
 have mix:=mixed
 have hB:Below w.heap.size w w:=Below.refl _ _
 have hM:SX.Cells w []:=SX.cells_nil
 refine SX.enter [(.agg #[.I c.params,.slice A1 c.blocks.length k1,.slice A2 c.contexts.length k2,.slice A3 c.objects.length k3])] 159 Try.func57 rfl rfl (by kernel_rfl) ?_
 intro a hR
 refine wp_seq_k fun K1 hK1=>?_
 refine SX.region_l ?_
 obtain ⟨n5,hn5⟩:∃ n,w.heap.size=n:=⟨_,rfl⟩
 have hzn5:w.heap.size≤n5:=by have:=hB.size; omega
 refine SX.list_box 0 n5 [(.I c.params),(.slice A1 c.blocks.length k1),(.slice A2 c.contexts.length k2),(.slice A3 c.objects.length k3)] 26 ((.e 1 (.P n5))::[(.e 0 (.agg #[.I c.params,.slice A1 c.blocks.length k1,.slice A2 c.contexts.length k2,.slice A3 c.objects.length k3]))]) [(⟨n5,0,none⟩,(.I c.params)),(⟨n5,1,none⟩,(.slice A1 c.blocks.length k1)),(⟨n5,2,none⟩,(.slice A2 c.contexts.length k2)),(⟨n5,3,none⟩,(.slice A3 c.objects.length k3))] hR hM hn5 (by kernel_rfl) (by kernel_rfl) ?_
 clear hR hM; intro a2 w3 hR hb4 hM hkn5 hln5
 replace hB:=hB.tr hb4
 replace hR:SX.RSt 159 [] [(.e 1 (.P n5))] a2:=hR.keep (ts:=[1]) (by kernel_rfl)
 refine SX.list_q0 (κ:=[]) 1 1 [.ld []] [1] [(.e 1 (.P n5))] hR hM (by kernel_rfl) (by kernel_rfl) ?_
 clear hR hM; intro a6 w7 hR hb8 hM
 replace hB:=hB.tr hb8
 replace hkn5:=SX.blk_below hkn5 hb8
 refine SX.list_end 2 (by kernel_rfl) ?_
 refine hK1 _ _ ?_
 refine wp_seq_k fun K9 hK9=>?_
 refine wp_seq_k fun K10 hK10=>?_
 refine SX.region_q [(3,decide (c.params<0)),(8,(decide (c.params<0)||decide (4<c.params))),(14,((decide (c.params<0)||decide (4<c.params))||(((c.blocks.length:Nat):Int)==0))),(24,(((decide (c.params<0)||decide (4<c.params))||(((c.blocks.length:Nat):Int)==0))||(0 != c.params)))] [.ld [],.ld [0],.ld [],.ld [],.ld [],.ld [0],.ld [],.pk,.ld [],.ld [],.ld [1],.ld [],.ld [],.pk,.ld [],.ld [],.ld [1],.hd (.P 0),.ld [],.hd (.I 0),.ld [],.ld [0],.ld [],.pk,.ld [],.ld [],.ld [2],.ld [],.ld [],.pk] [1,37] [(.e 1 (.P n5)),(.e 37 (.bool ((((decide (c.params<0)||decide (4<c.params))||(((c.blocks.length:Nat):Int)==0))||(0 != c.params))||(((c.contexts.length:Nat):Int)==0))))] [] [([(14,false)],ixS 22 (.slice A1 c.blocks.length k1) (.I 0),(.P 0)),([(14,false)],ldS 3 (.P 0),(.I 0))] [] [] hR hM mix (by kernel_rfl) (by kernel_rfl) (by kernel_rfl) (by kernel_rfl) trivial trivial (fun w' hb' hM'=>⟨fun hg=>absurd hg (by simp [SX.pv,SX.kv,hne]),fun hg=>absurd hg (by simp [SX.pv,SX.kv,hne]),trivial⟩) (fun w' hb' hM'=>trivial) ?_
 clear hR hM; intro a11 w12 hR hb13 hM
 replace hB:=hB.tr hb13
 replace hkn5:=SX.blk_below hkn5 hb13
 refine hK10 _ _ ?_
 refine SX.cond_ ((((decide (c.params<0)||decide (4<c.params))||(((c.blocks.length:Nat):Int)==0))||(0 != c.params))||(((c.contexts.length:Nat):Int)==0)) hR (by kernel_rfl) (fun h14=>?_) (fun h14=>?_)
 ·skip
  refine wp_seq_k fun K15 hK15=>?_
  refine SX.region_q0 [.ld []] [2] [(.e 2 (.bool false))] hR hM mix (by kernel_rfl) (by kernel_rfl) (by kernel_rfl) (by kernel_rfl) ?_
  clear hR hM; intro a16 w17 hR hb18 hM
  replace hB:=hB.tr hb18
  replace hkn5:=SX.blk_below hkn5 hb18
  refine hK15 _ _ ?_
  refine wp_ret ?_
  try simp only [Exit.then,Exit.inBlock,Nat.reduceEqDiff,↓reduceIte]
  refine SX.ret_ 2 (.bool false) Try.results57 hR (by kernel_rfl) ?_
  clear hR hM mix hK1 hzn5 hb4 hkn5 hln5 hn5 hb8 hK9 hK10 hb13 hK15 hb18
  refine ⟨ret_bool ?_,hB⟩
  unfold R.heads
  have e1:(((c.blocks.length:Nat):Int)==0)=(c.blocks.length==0):=by rw [Bool.eq_iff_iff]; simp
  have e2:(((c.contexts.length:Nat):Int)==0)=(c.contexts.length==0):=by rw [Bool.eq_iff_iff]; simp
  rw [e1,e2] at h14
  simp [hne]
 ·skip
  exact absurd h14 (by simp [hne])

theorem heads_any (c:CodeD) (v1 v2 v3:Value) (w:World) (h:CodeAt w v1 v2 v3 c):Calls Try.prog 57 #[(.agg #[.I c.params,v1,v2,v3])] w fun e w'=>e=.returned (.bool (R.heads c))∧Below w.heap.size w w':=by
 rcases Nat.eq_zero_or_pos c.blocks.length with hne | hne
 ·exact heads_nil c v1 v2 v3 w h hne
 ·exact heads_cons c v1 v2 v3 w h hne
end Go.Proofs.Ytlkcidmmpeebeaa
