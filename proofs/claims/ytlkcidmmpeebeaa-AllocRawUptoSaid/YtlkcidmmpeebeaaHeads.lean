/- Proved: ref06.heads -/
import Derived.Test.YtlkcidmmpeebeaaROps
set_option linter.unusedVariables false
set_option linter.unusedSimpArgs false
namespace Go.Proofs.Ytlkcidmmpeebeaa
open Go.RowKit
set_option maxRecDepth 100000
theorem ctxR_eq (k:Nat) (y:Int × Int × Int):(((decide (y.2.2<0)||decide (8≤y.2.2))||(((k:Int)==0)&&((y.1 != (-1))||(y.2.1 != (-1)))))||(decide (0<(k:Int))&&(((decide (y.1<0)||decide ((k:Int)≤y.1))||decide (y.2.1<0))||decide (9999<y.2.1))))=!R.ctx1 k y:=by
 unfold R.ctx1
 have e1:(((k:Int))==0)=(k==0):=by rw [Bool.eq_iff_iff]; simp
 have e2:decide (0<(k:Int))=decide (0<k):=by rw [Bool.eq_iff_iff]; simp
 rw [e1,e2,Bool.not_not]
theorem objR_eq (n:Nat) (y:Int × Int × Int):(((((decide (y.1<0)||decide ((n:Int)≤y.1))||decide (y.2.1<0))||decide (24≤y.2.1))||decide (y.2.2<1))||decide (8<y.2.2))=!R.obj1 n y:=by
 unfold R.obj1; rw [Bool.not_not]
theorem Upto.take_all {α:Type} {xs:List α} {p:α→Bool} {j k:Nat} (h:Upto xs (fun _=>p) j) (hk:k≤j):(xs.take k).all p=true:=by
 rw [List.all_eq_true]; intro x hx
 obtain ⟨i,hi⟩:=List.mem_iff_getElem?.1 hx
 rw [List.getElem?_take] at hi
 split at hi
 ·exact h i x (by omega) hi
 ·cases hi
theorem take_no {α:Type} {xs:List α} {p:α→Bool} {j k:Nat} {x:α} (hx:xs[j]?=some x) (hj:j<k) (hp:p x=false):(xs.take k).all p=false:=by
 rw [List.all_eq_false]; exact ⟨x,List.mem_iff_getElem?.2 ⟨j,by rw [List.getElem?_take,if_pos hj]; exact hx⟩,by simp [hp]⟩

set_option maxHeartbeats 1000000 in
theorem heads_cons (c:CodeD) (v1 v2 v3:Value) (w:World) (h:CodeAt w v1 v2 v3 c) (hne:0<c.blocks.length):Calls Try.prog 57 #[(.agg #[.I c.params,v1,v2,v3])] w fun e w'=>e=.returned (.bool (R.heads c))∧Below w.heap.size w w':=by
 have h0:=h
 obtain ⟨A1,k1,rfl,s1⟩:=h.2.1.shape
 obtain ⟨A2,k2,rfl,s2⟩:=h.2.2.1.shape
 obtain ⟨A3,k3,rfl,s3⟩:=h.2.2.2.shape
 unfold Shape at s1 s2 s3
 have mix:=mixed
 have hB:Below w.heap.size w w:=Below.refl _ _
 have hM:SX.Cells w []:=SX.cells_nil
 refine SX.enter [(.agg #[.I c.params,.slice A1 c.blocks.length k1,.slice A2 c.contexts.length k2,.slice A3 c.objects.length k3])] 159 Try.func57 rfl rfl (by kernel_rfl) ?_
 intro a hR
 refine wp_seq_k fun K1 hK1=>?_
 refine SX.region_l ?_
 obtain ⟨n5,hn5⟩:∃ n,w.heap.size=n:=⟨_,rfl⟩
 have hzn5:w.heap.size≤n5:=by have:=hB.size; omega
 refine SX.list_box 0 n5 [(.I c.params),(.slice A1 c.blocks.length k1),(.slice A2 c.contexts.length k2),(.slice A3 c.objects.length k3)] 26 ((.e 1 (.P n5))::[(.e 0 (.agg #[.I c.params,.slice A1 c.blocks.length k1,.slice A2 c.contexts.length k2,.slice A3 c.objects.length k3]))]) [(⟨n5,0,none⟩,(.I c.params)),(⟨n5,1,none⟩,(.slice A1 c.blocks.length k1)),(⟨n5,2,none⟩,(.slice A2 c.contexts.length k2)),(⟨n5,3,none⟩,(.slice A3 c.objects.length k3))] hR hM hn5 (by kernel_rfl) (by kernel_rfl) ?_
 clear hR hM; intro a2 w3 hR hb4 hM hkn5 hln5
 replace hB:=hB.tr hb4
 replace hR:SX.RSt 159 [] [(.e 1 (.P n5))] a2:=hR.keep (ts:=[1]) (by kernel_rfl)
 refine SX.list_q0 (κ:=[]) 1 1 [.ld []] [1] [(.e 1 (.P n5))] hR hM (by kernel_rfl) (by kernel_rfl) ?_
 clear hR hM; intro a6 w7 hR hb8 hM
 replace hB:=hB.tr hb8
 replace hkn5:=SX.blk_below hkn5 hb8
 refine SX.list_end 2 (by kernel_rfl) ?_
 refine hK1 _ _ ?_
 refine wp_seq_k fun K9 hK9=>?_
 obtain ⟨x,hx⟩:=get_of_lt (l:=c.blocks) (k:=0) (by omega)
 obtain ⟨bbx,box,hAx,B1x,j1x,B2x,j2x,B3x,j3x,B4x,j4x,hsx,hblx,cb0x,cb1x,cb2x,cb3x,cb4x,cb5x,cb6x,cb7x,cb8x,cb9x⟩:=h0.2.1.elem hx
 subst hAx; unfold Shape at hsx
 have hox:bbx<w.heap.size:=World.block_lt_of_cell? w _ cb0x
 replace hM:=(SX.cells_add (cell_below hB cb0x) (SX.cells_add (cell_below hB cb1x) (SX.cells_add (cell_below hB cb2x) (SX.cells_add (cell_below hB cb3x) (SX.cells_add (cell_below hB cb4x) (SX.cells_add (cell_below hB cb5x) (SX.cells_add (cell_below hB cb6x) (SX.cells_add (cell_below hB cb7x) (SX.cells_add (cell_below hB cb8x) (SX.cells_add (cell_below hB cb9x) hM))))))))))
 refine SX.qf [(3,decide (c.params<0)),(8,(decide (c.params<0)||decide (4<c.params))),(14,((decide (c.params<0)||decide (4<c.params))||((c.blocks.length:Int)==0))),(24,(((decide (c.params<0)||decide (4<c.params))||((c.blocks.length:Int)==0))||(x.params != c.params)))] [.ld [],.ld [10],.ld [],.ld [],.ld [],.ld [10],.ld [],.pk,.ld [],.ld [],.ld [11],.ld [],.ld [],.pk,.ld [],.ld [],.ld [11],.ix ⟨bbx,box+0*10,none⟩,.ld [],.ld [0],.ld [],.ld [10],.ld [],.pk,.ld [],.ld [],.ld [12],.ld [],.ld [],.pk] [1,37] [(.e 37 (.bool ((((decide (c.params<0)||decide (4<c.params))||((c.blocks.length:Int)==0))||(x.params != c.params))||((c.contexts.length:Int)==0))))] [([(14,false)],⟨bbx,box,none⟩,c.blocks.length,0,10,⟨bbx,box+0*10,none⟩)] [] [] [] hR hM hB mix ⟨fun hg=>SX.ix_ok (k:=0) (by omega),trivial⟩ trivial (fun w' hb' hM'=>trivial) (fun w' hb' hM'=>trivial) fun a10 w11 hR hb12 hB hM=>?_
 replace hkn5:=SX.blk_below hkn5 hb12
 refine SX.cond_ ((((decide (c.params<0)||decide (4<c.params))||((c.blocks.length:Int)==0))||(x.params != c.params))||((c.contexts.length:Int)==0)) hR (by kernel_rfl) (fun h13=>?_) (fun h13=>?_)
 ·skip
  refine SX.qs [.ld []] [2] [(.e 2 (.bool false))] hR hM hB mix fun a14 w15 hR hb16 hB hM=>?_
  replace hkn5:=SX.blk_below hkn5 hb16
  refine wp_ret ?_
  try simp only [Exit.then,Exit.inBlock,Nat.reduceEqDiff,↓reduceIte]
  refine SX.ret_ 2 (.bool false) Try.results57 hR (by kernel_rfl) ?_
  clear hR hM mix hK1 hzn5 hb4 hkn5 hln5 hn5 hb8 hK9 hb12 hb16
  refine ⟨ret_bool ?_,hB⟩
  unfold R.heads
  rw [show R.paramsAt c 0=x.params from params_at (i:=0) hx]
  have e1:((c.blocks.length:Int)==0)=(c.blocks.length==0):=by rw [Bool.eq_iff_iff]; simp
  have e2:((c.contexts.length:Int)==0)=(c.contexts.length==0):=by rw [Bool.eq_iff_iff]; simp
  rw [e1,e2] at h13
  rw [h13]; rfl
 ·skip
  refine wp_skip ?_
  refine hK9 _ _ ?_
  refine wp_seq_k fun K17 hK17=>?_
  refine SX.qs [.ld [],.ld [12],.ld [],.ld []] [1,39,40,41] [(.e 39 (.slice A2 c.contexts.length k2)),(.e 40 (.I (c.contexts.length:Int))),(.e 41 (.I 0))] hR hM hB mix fun a18 w19 hR hb20 hB hM=>?_
  replace hkn5:=SX.blk_below hkn5 hb20
  refine wp_block ?_
  refine wp_loop_ghost (fun m23 a' w'=>∃ k:Nat,m23=c.contexts.length-k∧k≤c.contexts.length∧SX.RSt 159 [] [(.e 1 (.P n5)),(.e 39 (.slice A2 c.contexts.length k2)),(.e 40 (.I (c.contexts.length:Int))),(.e 41 (.I (k:Int)))] a'∧Below w.heap.size w w'∧SX.Cells w' [(⟨bbx,box+0*10,none⟩,(.I x.params)),(⟨bbx,box+0*10+1,none⟩,(.slice B1x x.ops.length j1x)),(⟨bbx,box+0*10+2,none⟩,(.I x.term.kind)),(⟨bbx,box+0*10+3,none⟩,(.I x.term.a)),(⟨bbx,box+0*10+4,none⟩,(.I x.term.n)),(⟨bbx,box+0*10+5,none⟩,(.slice B2x x.term.args.length j2x)),(⟨bbx,box+0*10+6,none⟩,(.I x.term.b0)),(⟨bbx,box+0*10+7,none⟩,(.slice B3x x.term.args0.length j3x)),(⟨bbx,box+0*10+8,none⟩,(.I x.term.b1)),(⟨bbx,box+0*10+9,none⟩,(.slice B4x x.term.args1.length j4x)),(⟨n5,0,none⟩,(.I c.params)),(⟨n5,1,none⟩,(.slice (some ⟨bbx,box,none⟩) c.blocks.length k1)),(⟨n5,2,none⟩,(.slice A2 c.contexts.length k2)),(⟨n5,3,none⟩,(.slice A3 c.objects.length k3))]∧Upto c.contexts R.ctx1 (k)) (c.contexts.length-0) ⟨0,rfl,Nat.zero_le _,hR.keep (ts:=[1,39,40,41]) (by kernel_rfl),hB,hM,Upto.zero⟩ ?_
  clear hR hM hB
  rintro m23 a21 w22 ⟨k,hm23,hlek,hR,hB,hM,hIk⟩
  refine SX.qs [.ld []] [1,39,40,41,42] [(.e 42 (.bool (decide ((k:Int)<(c.contexts.length:Int)))))] hR hM hB mix fun a24 w25 hR hb26 hB hM=>?_
  refine wp_seq_k fun K27 hK27=>?_
  refine SX.cond_ (decide ((k:Int)<(c.contexts.length:Int))) hR (by kernel_rfl) (fun h28=>?_) (fun h28=>?_)
  ·skip
   refine wp_skip ?_
   refine hK27 _ _ ?_
   refine wp_seq_k fun K29 hK29=>?_
   refine wp_block ?_
   refine wp_seq_k fun K30 hK30=>?_
   have hlt:k<c.contexts.length:=lt_of_dec h28
   obtain ⟨y,hy⟩:=get_of_lt hlt
   obtain ⟨rby,roy,hAy,hiy,cr0y,cr1y,cr2y⟩:=h0.2.2.1.elem hy
   subst hAy
   have hoy:rby<w.heap.size:=World.block_lt_of_cell? w _ cr0y
   replace hM:=(SX.cells_add (cell_below hB cr0y) (SX.cells_add (cell_below hB cr1y) (SX.cells_add (cell_below hB cr2y) hM)))
   refine SX.region_l ?_
   refine SX.list_q (κ:=[]) 0 3 [.ld [],.ix ⟨rby,roy+k*3,none⟩,.ld [0,1,2]] [1,39,40,41,43,45] [(.e 1 (.P n5)),(.e 39 (.slice (some ⟨rby,roy,none⟩) c.contexts.length k2)),(.e 40 (.I (c.contexts.length:Int))),(.e 41 (.I (k:Int))),(.e 43 (.I (k:Int))),(.e 45 (.agg #[.I y.1,.I y.2.1,.I y.2.2]))] [([],⟨rby,roy,none⟩,c.contexts.length,(k:Int),3,⟨rby,roy+k*3,none⟩)] [] [] [] hR hM (by kernel_rfl) (by kernel_rfl) ⟨fun hg=>SX.ix_ok (by omega),trivial⟩ trivial (fun w' hb' hM'=>trivial) (fun w' hb' hM'=>trivial) ?_
   clear hR hM; intro a31 w32 hR hb33 hM
   replace hB:=hB.tr hb33
   obtain ⟨n37,hn37⟩:∃ n,w32.heap.size=n:=⟨_,rfl⟩
   have hzn37:w.heap.size≤n37:=by have:=hB.size; omega
   refine SX.list_alloc 3 n37 [(.I 0),(.I 0),(.I 0)] 99 ((.e 4 (.P n37))::[(.e 1 (.P n5)),(.e 39 (.slice (some ⟨rby,roy,none⟩) c.contexts.length k2)),(.e 40 (.I (c.contexts.length:Int))),(.e 41 (.I (k:Int))),(.e 43 (.I (k:Int))),(.e 45 (.agg #[.I y.1,.I y.2.1,.I y.2.2]))]) hR hM hn37 (by kernel_rfl) ?_
   clear hR hM; intro a34 w35 hR hb36 hM hkn37 hln37 hnen37
   replace hB:=hB.tr hb36
   replace hR:SX.RSt 159 [] [(.e 1 (.P n5)),(.e 4 (.P n37)),(.e 39 (.slice (some ⟨rby,roy,none⟩) c.contexts.length k2)),(.e 40 (.I (c.contexts.length:Int))),(.e 41 (.I (k:Int))),(.e 43 (.I (k:Int))),(.e 45 (.agg #[.I y.1,.I y.2.1,.I y.2.2]))] a34:=hR.keep (ts:=[1,4,39,40,41,43,45]) (by kernel_rfl)
   refine SX.list_q0 (κ:=[]) 4 1 [.ld []] [1,3,4,39,40,41,45] [(.e 1 (.P n5)),(.e 3 (.I (k:Int))),(.e 4 (.P n37)),(.e 39 (.slice (some ⟨rby,roy,none⟩) c.contexts.length k2)),(.e 40 (.I (c.contexts.length:Int))),(.e 41 (.I (k:Int))),(.e 45 (.agg #[.I y.1,.I y.2.1,.I y.2.2]))] hR hM (by kernel_rfl) (by kernel_rfl) ?_
   clear hR hM; intro a38 w39 hR hb40 hM
   replace hB:=hB.tr hb40
   replace hkn37:=SX.blk_below hkn37 hb40
   refine SX.list_store 5 [(0,(.I y.1)),(1,(.I y.2.1)),(2,(.I y.2.2))] [(.I y.1),(.I y.2.1),(.I y.2.2)] [(⟨rby,roy+k*3,none⟩,(.I y.1)),(⟨rby,roy+k*3+1,none⟩,(.I y.2.1)),(⟨rby,roy+k*3+2,none⟩,(.I y.2.2)),(⟨bbx,box+0*10,none⟩,(.I x.params)),(⟨bbx,box+0*10+1,none⟩,(.slice B1x x.ops.length j1x)),(⟨bbx,box+0*10+2,none⟩,(.I x.term.kind)),(⟨bbx,box+0*10+3,none⟩,(.I x.term.a)),(⟨bbx,box+0*10+4,none⟩,(.I x.term.n)),(⟨bbx,box+0*10+5,none⟩,(.slice B2x x.term.args.length j2x)),(⟨bbx,box+0*10+6,none⟩,(.I x.term.b0)),(⟨bbx,box+0*10+7,none⟩,(.slice B3x x.term.args0.length j3x)),(⟨bbx,box+0*10+8,none⟩,(.I x.term.b1)),(⟨bbx,box+0*10+9,none⟩,(.slice B4x x.term.args1.length j4x)),(⟨n5,0,none⟩,(.I c.params)),(⟨n5,1,none⟩,(.slice (some ⟨bbx,box,none⟩) c.blocks.length k1)),(⟨n5,2,none⟩,(.slice (some ⟨rby,roy,none⟩) c.contexts.length k2)),(⟨n5,3,none⟩,(.slice A3 c.objects.length k3))] [(⟨n37,0,none⟩,(.I y.1)),(⟨n37,1,none⟩,(.I y.2.1)),(⟨n37,2,none⟩,(.I y.2.2)),(⟨rby,roy+k*3,none⟩,(.I y.1)),(⟨rby,roy+k*3+1,none⟩,(.I y.2.1)),(⟨rby,roy+k*3+2,none⟩,(.I y.2.2)),(⟨bbx,box+0*10,none⟩,(.I x.params)),(⟨bbx,box+0*10+1,none⟩,(.slice B1x x.ops.length j1x)),(⟨bbx,box+0*10+2,none⟩,(.I x.term.kind)),(⟨bbx,box+0*10+3,none⟩,(.I x.term.a)),(⟨bbx,box+0*10+4,none⟩,(.I x.term.n)),(⟨bbx,box+0*10+5,none⟩,(.slice B2x x.term.args.length j2x)),(⟨bbx,box+0*10+6,none⟩,(.I x.term.b0)),(⟨bbx,box+0*10+7,none⟩,(.slice B3x x.term.args0.length j3x)),(⟨bbx,box+0*10+8,none⟩,(.I x.term.b1)),(⟨bbx,box+0*10+9,none⟩,(.slice B4x x.term.args1.length j4x)),(⟨n5,0,none⟩,(.I c.params)),(⟨n5,1,none⟩,(.slice (some ⟨bbx,box,none⟩) c.blocks.length k1)),(⟨n5,2,none⟩,(.slice (some ⟨rby,roy,none⟩) c.contexts.length k2)),(⟨n5,3,none⟩,(.slice A3 c.objects.length k3))] hR (SX.cells_sub hM [0,1,2,3,4,5,6,7,8,9,10,11,12,13,14,15,16] (by kernel_rfl)) hnen37 hkn37 (by kernel_rfl) (by kernel_rfl) (by kernel_rfl) ?_
   clear hR hM hkn37; intro a41 w42 hR hb43 hM hkn37
   replace hB:=hB.trans (hb43.below (by omega))
   refine SX.list_end 6 (by kernel_rfl) ?_
   refine hK30 _ _ ?_
   refine SX.qf [(3,decide (y.2.2<0)),(8,(decide (y.2.2<0)||decide (8≤y.2.2))),(11,((k:Int)==0)),(15,(y.1 != (-1))),(22,((decide (y.2.2<0)||decide (8≤y.2.2))||(((k:Int)==0)&&((y.1 != (-1))||(y.2.1 != (-1)))))),(25,decide (0<(k:Int))),(29,decide (y.1<0)),(35,(decide (y.1<0)||decide ((k:Int)≤y.1))),(40,((decide (y.1<0)||decide ((k:Int)≤y.1))||decide (y.2.1<0)))] [.ld [],.ld [2],.ld [],.ld [],.ld [],.ld [2],.ld [],.pk,.ld [],.ld [],.ld [],.ld [],.ld [],.ld [0],.ld [],.ld [],.ld [],.ld [1],.ld [],.pk,.pk,.pk,.ld [],.ld [],.ld [],.ld [],.ld [],.ld [0],.ld [],.ld [],.ld [],.ld [0],.ld [],.ld [],.pk,.ld [],.ld [],.ld [1],.ld [],.pk,.ld [],.ld [],.ld [1],.ld [],.pk,.pk,.pk] [1,39,40,41,92] [(.e 92 (.bool (((decide (y.2.2<0)||decide (8≤y.2.2))||(((k:Int)==0)&&((y.1 != (-1))||(y.2.1 != (-1)))))||(decide (0<(k:Int))&&(((decide (y.1<0)||decide ((k:Int)≤y.1))||decide (y.2.1<0))||decide (9999<y.2.1))))))] [] [] [] [] hR hM hB mix trivial trivial (fun w' hb' hM'=>trivial) (fun w' hb' hM'=>trivial) fun a44 w45 hR hb46 hB hM=>?_
   replace hkn37:=SX.blk_below hkn37 hb46
   refine SX.cond_ (((decide (y.2.2<0)||decide (8≤y.2.2))||(((k:Int)==0)&&((y.1 != (-1))||(y.2.1 != (-1)))))||(decide (0<(k:Int))&&(((decide (y.1<0)||decide ((k:Int)≤y.1))||decide (y.2.1<0))||decide (9999<y.2.1)))) hR (by kernel_rfl) (fun h47=>?_) (fun h47=>?_)
   ·skip
    refine SX.qs [.ld []] [1,2,39,40,41] [(.e 2 (.bool false))] hR hM hB mix fun a48 w49 hR hb50 hB hM=>?_
    replace hkn37:=SX.blk_below hkn37 hb50
    refine wp_ret ?_
    try simp only [Exit.then,Exit.inBlock,Nat.reduceEqDiff,↓reduceIte]
    refine SX.ret_ 2 (.bool false) Try.results57 hR (by kernel_rfl) ?_
    clear hR hM mix hK1 hzn5 hb4 hkn5 hln5 hn5 hb8 hK9 hb12 hK17 hb20 hm23 hb26 hK27 hK29 hK30 hb33 hzn37 hb36 hkn37 hln37 hn37 hnen37 hb40 hb43 hb46 hb50
    refine ⟨ret_bool ?_,hB⟩
    unfold R.heads
    rw [show R.paramsAt c 0=x.params from params_at (i:=0) hx]
    have e1:((c.blocks.length:Int)==0)=(c.blocks.length==0):=by rw [Bool.eq_iff_iff]; simp
    have e2:((c.contexts.length:Int)==0)=(c.contexts.length==0):=by rw [Bool.eq_iff_iff]; simp
    rw [e1,e2] at h13
    rw [h13]
    unfold R.ctxs; rw [← allAt_no hy (p:=R.ctx1) (by have:=h47; rw [ctxR_eq] at this; simpa using this)]; rfl
   ·skip
    refine wp_skip ?_
    refine hK29 _ _ ?_
    refine SX.qf0 [] [.nm (.I ((k+1:Nat):Int)),.ld []] [1,39,40,41] [(.e 41 (.I ((k+1:Nat):Int)))] [] [] [] [([],(.I (IntKind.i64.wrap ((k:Int)+1))),(.I ((k+1:Nat):Int)))] hR hM hB mix trivial ⟨fun hg=>SX.wrap_ok (by omega),trivial⟩ (fun w' hb' hM'=>trivial) (fun w' hb' hM'=>trivial) fun a51 w52 hR hb53 hB hM=>?_
    replace hkn37:=SX.blk_below hkn37 hb53
    exact ⟨c.contexts.length-(k+1),by omega,k+1,rfl,by omega,hR.keep (ts:=[1,39,40,41]) (by kernel_rfl),hB,SX.cells_sub hM [6,7,8,9,10,11,12,13,14,15,16,17,18,19] (by kernel_rfl),hIk.step hy (by have:=h47; rw [ctxR_eq] at this; simpa using this)⟩
  ·skip
   refine wp_exit ?_
   refine hK17 _ _ ?_
   refine wp_seq_k fun K54 hK54=>?_
   have hctx:=hIk.allAt (le_of_dec h28)
   refine SX.qs [.ld [],.ld [13],.ld [],.ld []] [1,39,40,41,95,96,97] [(.e 95 (.slice A3 c.objects.length k3)),(.e 96 (.I (c.objects.length:Int))),(.e 97 (.I 0))] hR hM hB mix fun a55 w56 hR hb57 hB hM=>?_
   refine wp_block ?_
   refine wp_loop_ghost (fun m60 a' w'=>∃ m:Nat,m60=c.objects.length-m∧m≤c.objects.length∧SX.RSt 159 [] [(.e 1 (.P n5)),(.e 39 (.slice A2 c.contexts.length k2)),(.e 40 (.I (c.contexts.length:Int))),(.e 41 (.I (k:Int))),(.e 95 (.slice A3 c.objects.length k3)),(.e 96 (.I (c.objects.length:Int))),(.e 97 (.I (m:Int)))] a'∧Below w.heap.size w w'∧SX.Cells w' [(⟨bbx,box+0*10,none⟩,(.I x.params)),(⟨bbx,box+0*10+1,none⟩,(.slice B1x x.ops.length j1x)),(⟨bbx,box+0*10+2,none⟩,(.I x.term.kind)),(⟨bbx,box+0*10+3,none⟩,(.I x.term.a)),(⟨bbx,box+0*10+4,none⟩,(.I x.term.n)),(⟨bbx,box+0*10+5,none⟩,(.slice B2x x.term.args.length j2x)),(⟨bbx,box+0*10+6,none⟩,(.I x.term.b0)),(⟨bbx,box+0*10+7,none⟩,(.slice B3x x.term.args0.length j3x)),(⟨bbx,box+0*10+8,none⟩,(.I x.term.b1)),(⟨bbx,box+0*10+9,none⟩,(.slice B4x x.term.args1.length j4x)),(⟨n5,0,none⟩,(.I c.params)),(⟨n5,1,none⟩,(.slice (some ⟨bbx,box,none⟩) c.blocks.length k1)),(⟨n5,2,none⟩,(.slice A2 c.contexts.length k2)),(⟨n5,3,none⟩,(.slice A3 c.objects.length k3))]∧Upto c.objects (fun i x=>R.obj1 c.contexts.length x&&(c.objects.take i).all (fun y=>!(y.1==x.1&&y.2.1==x.2.1))) (m)) (c.objects.length-0) ⟨0,rfl,Nat.zero_le _,hR.keep (ts:=[1,39,40,41,95,96,97]) (by kernel_rfl),hB,hM,Upto.zero⟩ ?_
   clear hR hM hB
   rintro m60 a58 w59 ⟨m,hm60,hlem,hR,hB,hM,hIm⟩
   refine SX.qs [.ld []] [1,39,40,41,95,96,97,98] [(.e 98 (.bool (decide ((m:Int)<(c.objects.length:Int)))))] hR hM hB mix fun a61 w62 hR hb63 hB hM=>?_
   refine wp_seq_k fun K64 hK64=>?_
   refine SX.cond_ (decide ((m:Int)<(c.objects.length:Int))) hR (by kernel_rfl) (fun h65=>?_) (fun h65=>?_)
   ·skip
    refine wp_skip ?_
    refine hK64 _ _ ?_
    refine wp_seq_k fun K66 hK66=>?_
    refine wp_block ?_
    refine wp_seq_k fun K67 hK67=>?_
    have hlt:m<c.objects.length:=lt_of_dec h65
    obtain ⟨z,hz⟩:=get_of_lt hlt
    obtain ⟨rbz,roz,hAz,hiz,cr0z,cr1z,cr2z⟩:=h0.2.2.2.elem hz
    subst hAz
    have hoz:rbz<w.heap.size:=World.block_lt_of_cell? w _ cr0z
    replace hM:=(SX.cells_add (cell_below hB cr0z) (SX.cells_add (cell_below hB cr1z) (SX.cells_add (cell_below hB cr2z) hM)))
    refine SX.region_l ?_
    refine SX.list_q (κ:=[]) 0 3 [.ld [],.ix ⟨rbz,roz+m*3,none⟩,.ld [0,1,2]] [1,39,40,41,95,96,97,99,101] [(.e 1 (.P n5)),(.e 39 (.slice A2 c.contexts.length k2)),(.e 40 (.I (c.contexts.length:Int))),(.e 41 (.I (k:Int))),(.e 95 (.slice (some ⟨rbz,roz,none⟩) c.objects.length k3)),(.e 96 (.I (c.objects.length:Int))),(.e 97 (.I (m:Int))),(.e 99 (.I (m:Int))),(.e 101 (.agg #[.I z.1,.I z.2.1,.I z.2.2]))] [([],⟨rbz,roz,none⟩,c.objects.length,(m:Int),3,⟨rbz,roz+m*3,none⟩)] [] [] [] hR hM (by kernel_rfl) (by kernel_rfl) ⟨fun hg=>SX.ix_ok (by omega),trivial⟩ trivial (fun w' hb' hM'=>trivial) (fun w' hb' hM'=>trivial) ?_
    clear hR hM; intro a68 w69 hR hb70 hM
    replace hB:=hB.tr hb70
    obtain ⟨n74,hn74⟩:∃ n,w69.heap.size=n:=⟨_,rfl⟩
    have hzn74:w.heap.size≤n74:=by have:=hB.size; omega
    refine SX.list_alloc 3 n74 [(.I 0),(.I 0),(.I 0)] 102 ((.e 6 (.P n74))::[(.e 1 (.P n5)),(.e 39 (.slice A2 c.contexts.length k2)),(.e 40 (.I (c.contexts.length:Int))),(.e 41 (.I (k:Int))),(.e 95 (.slice (some ⟨rbz,roz,none⟩) c.objects.length k3)),(.e 96 (.I (c.objects.length:Int))),(.e 97 (.I (m:Int))),(.e 99 (.I (m:Int))),(.e 101 (.agg #[.I z.1,.I z.2.1,.I z.2.2]))]) hR hM hn74 (by kernel_rfl) ?_
    clear hR hM; intro a71 w72 hR hb73 hM hkn74 hln74 hnen74
    replace hB:=hB.tr hb73
    replace hR:SX.RSt 159 [] [(.e 1 (.P n5)),(.e 6 (.P n74)),(.e 39 (.slice A2 c.contexts.length k2)),(.e 40 (.I (c.contexts.length:Int))),(.e 41 (.I (k:Int))),(.e 95 (.slice (some ⟨rbz,roz,none⟩) c.objects.length k3)),(.e 96 (.I (c.objects.length:Int))),(.e 97 (.I (m:Int))),(.e 99 (.I (m:Int))),(.e 101 (.agg #[.I z.1,.I z.2.1,.I z.2.2]))] a71:=hR.keep (ts:=[1,6,39,40,41,95,96,97,99,101]) (by kernel_rfl)
    refine SX.list_q0 (κ:=[]) 4 1 [.ld []] [1,5,6,39,40,41,95,96,97,101] [(.e 1 (.P n5)),(.e 5 (.I (m:Int))),(.e 6 (.P n74)),(.e 39 (.slice A2 c.contexts.length k2)),(.e 40 (.I (c.contexts.length:Int))),(.e 41 (.I (k:Int))),(.e 95 (.slice (some ⟨rbz,roz,none⟩) c.objects.length k3)),(.e 96 (.I (c.objects.length:Int))),(.e 97 (.I (m:Int))),(.e 101 (.agg #[.I z.1,.I z.2.1,.I z.2.2]))] hR hM (by kernel_rfl) (by kernel_rfl) ?_
    clear hR hM; intro a75 w76 hR hb77 hM
    replace hB:=hB.tr hb77
    replace hkn74:=SX.blk_below hkn74 hb77
    refine SX.list_store 5 [(0,(.I z.1)),(1,(.I z.2.1)),(2,(.I z.2.2))] [(.I z.1),(.I z.2.1),(.I z.2.2)] [(⟨rbz,roz+m*3,none⟩,(.I z.1)),(⟨rbz,roz+m*3+1,none⟩,(.I z.2.1)),(⟨rbz,roz+m*3+2,none⟩,(.I z.2.2)),(⟨bbx,box+0*10,none⟩,(.I x.params)),(⟨bbx,box+0*10+1,none⟩,(.slice B1x x.ops.length j1x)),(⟨bbx,box+0*10+2,none⟩,(.I x.term.kind)),(⟨bbx,box+0*10+3,none⟩,(.I x.term.a)),(⟨bbx,box+0*10+4,none⟩,(.I x.term.n)),(⟨bbx,box+0*10+5,none⟩,(.slice B2x x.term.args.length j2x)),(⟨bbx,box+0*10+6,none⟩,(.I x.term.b0)),(⟨bbx,box+0*10+7,none⟩,(.slice B3x x.term.args0.length j3x)),(⟨bbx,box+0*10+8,none⟩,(.I x.term.b1)),(⟨bbx,box+0*10+9,none⟩,(.slice B4x x.term.args1.length j4x)),(⟨n5,0,none⟩,(.I c.params)),(⟨n5,1,none⟩,(.slice (some ⟨bbx,box,none⟩) c.blocks.length k1)),(⟨n5,2,none⟩,(.slice A2 c.contexts.length k2)),(⟨n5,3,none⟩,(.slice (some ⟨rbz,roz,none⟩) c.objects.length k3))] [(⟨n74,0,none⟩,(.I z.1)),(⟨n74,1,none⟩,(.I z.2.1)),(⟨n74,2,none⟩,(.I z.2.2)),(⟨rbz,roz+m*3,none⟩,(.I z.1)),(⟨rbz,roz+m*3+1,none⟩,(.I z.2.1)),(⟨rbz,roz+m*3+2,none⟩,(.I z.2.2)),(⟨bbx,box+0*10,none⟩,(.I x.params)),(⟨bbx,box+0*10+1,none⟩,(.slice B1x x.ops.length j1x)),(⟨bbx,box+0*10+2,none⟩,(.I x.term.kind)),(⟨bbx,box+0*10+3,none⟩,(.I x.term.a)),(⟨bbx,box+0*10+4,none⟩,(.I x.term.n)),(⟨bbx,box+0*10+5,none⟩,(.slice B2x x.term.args.length j2x)),(⟨bbx,box+0*10+6,none⟩,(.I x.term.b0)),(⟨bbx,box+0*10+7,none⟩,(.slice B3x x.term.args0.length j3x)),(⟨bbx,box+0*10+8,none⟩,(.I x.term.b1)),(⟨bbx,box+0*10+9,none⟩,(.slice B4x x.term.args1.length j4x)),(⟨n5,0,none⟩,(.I c.params)),(⟨n5,1,none⟩,(.slice (some ⟨bbx,box,none⟩) c.blocks.length k1)),(⟨n5,2,none⟩,(.slice A2 c.contexts.length k2)),(⟨n5,3,none⟩,(.slice (some ⟨rbz,roz,none⟩) c.objects.length k3))] hR (SX.cells_sub hM [0,1,2,3,4,5,6,7,8,9,10,11,12,13,14,15,16] (by kernel_rfl)) hnen74 hkn74 (by kernel_rfl) (by kernel_rfl) (by kernel_rfl) ?_
    clear hR hM hkn74; intro a78 w79 hR hb80 hM hkn74
    replace hB:=hB.trans (hb80.below (by omega))
    refine SX.list_end 6 (by kernel_rfl) ?_
    refine hK67 _ _ ?_
    refine wp_seq_k fun K81 hK81=>?_
    refine SX.qf [(3,decide (z.1<0)),(11,(decide (z.1<0)||decide ((c.contexts.length:Int)≤z.1))),(16,((decide (z.1<0)||decide ((c.contexts.length:Int)≤z.1))||decide (z.2.1<0))),(21,(((decide (z.1<0)||decide ((c.contexts.length:Int)≤z.1))||decide (z.2.1<0))||decide (24≤z.2.1))),(26,((((decide (z.1<0)||decide ((c.contexts.length:Int)≤z.1))||decide (z.2.1<0))||decide (24≤z.2.1))||decide (z.2.2<1)))] [.ld [],.ld [0],.ld [],.ld [],.ld [],.ld [0],.ld [],.ld [18],.ld [],.ld [],.pk,.ld [],.ld [],.ld [1],.ld [],.pk,.ld [],.ld [],.ld [1],.ld [],.pk,.ld [],.ld [],.ld [2],.ld [],.pk,.ld [],.ld [],.ld [2],.ld [],.pk] [1,5,6,39,40,41,95,96,97,132] [(.e 132 (.bool (((((decide (z.1<0)||decide ((c.contexts.length:Int)≤z.1))||decide (z.2.1<0))||decide (24≤z.2.1))||decide (z.2.2<1))||decide (8<z.2.2))))] [] [] [] [] hR hM hB mix trivial trivial (fun w' hb' hM'=>trivial) (fun w' hb' hM'=>trivial) fun a82 w83 hR hb84 hB hM=>?_
    replace hkn74:=SX.blk_below hkn74 hb84
    refine SX.cond_ (((((decide (z.1<0)||decide ((c.contexts.length:Int)≤z.1))||decide (z.2.1<0))||decide (24≤z.2.1))||decide (z.2.2<1))||decide (8<z.2.2)) hR (by kernel_rfl) (fun h85=>?_) (fun h85=>?_)
    ·skip
     refine SX.qs [.ld []] [1,2,39,40,41,95,96,97] [(.e 2 (.bool false))] hR hM hB mix fun a86 w87 hR hb88 hB hM=>?_
     replace hkn74:=SX.blk_below hkn74 hb88
     refine wp_ret ?_
     try simp only [Exit.then,Exit.inBlock,Nat.reduceEqDiff,↓reduceIte]
     refine SX.ret_ 2 (.bool false) Try.results57 hR (by kernel_rfl) ?_
     clear hR hM mix hK1 hzn5 hb4 hkn5 hln5 hn5 hb8 hK9 hb12 hK17 hb20 hm23 hb26 hK27 hK54 hb57 hm60 hb63 hK64 hK66 hK67 hb70 hzn74 hb73 hkn74 hln74 hn74 hnen74 hb77 hb80 hK81 hb84 hb88
     refine ⟨ret_bool ?_,hB⟩
     unfold R.heads
     rw [show R.paramsAt c 0=x.params from params_at (i:=0) hx]
     have e1:((c.blocks.length:Int)==0)=(c.blocks.length==0):=by rw [Bool.eq_iff_iff]; simp
     have e2:((c.contexts.length:Int)==0)=(c.contexts.length==0):=by rw [Bool.eq_iff_iff]; simp
     rw [e1,e2] at h13
     rw [h13]
     unfold R.ctxs R.objs; rw [← hctx,← allAt_no hz (p:=fun i x=>R.obj1 c.contexts.length x&&(c.objects.take i).all (fun y=>!(y.1==x.1&&y.2.1==x.2.1))) (by have:=h85; rw [objR_eq] at this; rw [show R.obj1 c.contexts.length z=false from by simpa using this]; rfl)]; rfl
    ·skip
     refine wp_skip ?_
     refine hK81 _ _ ?_
     refine SX.qs [.ld []] [1,5,6,7,39,40,41,95,96,97] [(.e 7 (.I 0))] hR hM hB mix fun a89 w90 hR hb91 hB hM=>?_
     replace hkn74:=SX.blk_below hkn74 hb91
     refine wp_block ?_
     refine wp_loop_ghost (fun m94 a' w'=>∃ j:Nat,m94=m-j∧j≤m∧SX.RSt 159 [] [(.e 1 (.P n5)),(.e 5 (.I (m:Int))),(.e 6 (.P n74)),(.e 7 (.I (j:Int))),(.e 39 (.slice A2 c.contexts.length k2)),(.e 40 (.I (c.contexts.length:Int))),(.e 41 (.I (k:Int))),(.e 95 (.slice (some ⟨rbz,roz,none⟩) c.objects.length k3)),(.e 96 (.I (c.objects.length:Int))),(.e 97 (.I (m:Int)))] a'∧Below w.heap.size w w'∧SX.Cells w' [(⟨n74,0,none⟩,(.I z.1)),(⟨n74,1,none⟩,(.I z.2.1)),(⟨n74,2,none⟩,(.I z.2.2)),(⟨rbz,roz+m*3,none⟩,(.I z.1)),(⟨rbz,roz+m*3+1,none⟩,(.I z.2.1)),(⟨rbz,roz+m*3+2,none⟩,(.I z.2.2)),(⟨bbx,box+0*10,none⟩,(.I x.params)),(⟨bbx,box+0*10+1,none⟩,(.slice B1x x.ops.length j1x)),(⟨bbx,box+0*10+2,none⟩,(.I x.term.kind)),(⟨bbx,box+0*10+3,none⟩,(.I x.term.a)),(⟨bbx,box+0*10+4,none⟩,(.I x.term.n)),(⟨bbx,box+0*10+5,none⟩,(.slice B2x x.term.args.length j2x)),(⟨bbx,box+0*10+6,none⟩,(.I x.term.b0)),(⟨bbx,box+0*10+7,none⟩,(.slice B3x x.term.args0.length j3x)),(⟨bbx,box+0*10+8,none⟩,(.I x.term.b1)),(⟨bbx,box+0*10+9,none⟩,(.slice B4x x.term.args1.length j4x)),(⟨n5,0,none⟩,(.I c.params)),(⟨n5,1,none⟩,(.slice (some ⟨bbx,box,none⟩) c.blocks.length k1)),(⟨n5,2,none⟩,(.slice A2 c.contexts.length k2)),(⟨n5,3,none⟩,(.slice (some ⟨rbz,roz,none⟩) c.objects.length k3))]∧Upto c.objects (fun _ y=>!(y.1==z.1&&y.2.1==z.2.1)) (j)) (m-0) ⟨0,rfl,Nat.zero_le _,hR.keep (ts:=[1,5,6,7,39,40,41,95,96,97]) (by kernel_rfl),hB,hM,Upto.zero⟩ ?_
     clear hR hM hB
     rintro m94 a92 w93 ⟨j,hm94,hlej,hR,hB,hM,hIj⟩
     refine wp_seq_k fun K95 hK95=>?_
     refine SX.qs [.ld [],.ld [],.ld []] [1,5,6,7,39,40,41,95,96,97,135] [(.e 135 (.bool (decide ((j:Int)<(m:Int)))))] hR hM hB mix fun a96 w97 hR hb98 hB hM=>?_
     refine SX.cond_ (decide ((j:Int)<(m:Int))) hR (by kernel_rfl) (fun h99=>?_) (fun h99=>?_)
     ·skip
      refine wp_skip ?_
      refine hK95 _ _ ?_
      refine wp_seq_k fun K100 hK100=>?_
      refine wp_block ?_
      have hlj:j<m:=lt_of_dec h99
      obtain ⟨x2,hx2⟩:=get_of_lt (l:=c.objects) (k:=j) (by omega)
      obtain ⟨rbq,roq,hAq,hiq,cr0q,cr1q,cr2q⟩:=h0.2.2.2.elem hx2
      obtain ⟨rfl,rfl⟩:rbz=rbq∧roz=roq:=by simpa using hAq
      replace hM:=(SX.cells_add (cell_below hB cr0q) (SX.cells_add (cell_below hB cr1q) (SX.cells_add (cell_below hB cr2q) hM)))
      have hjo:j<c.objects.length:=Nat.lt_trans hlj hlt
      refine SX.qf [(9,(x2.1==z.1))] [.ld [],.ld [22],.ld [],.ix ⟨rbz,roz+j*3,none⟩,.ld [],.ld [0],.ld [],.ld [3],.ld [],.ld [],.ld [],.ld [22],.ld [],.ix ⟨rbz,roz+j*3,none⟩,.ld [],.ld [1],.ld [],.ld [4],.ld [],.pk] [1,5,6,7,39,40,41,95,96,97,157] [(.e 157 (.bool ((x2.1==z.1)&&(x2.2.1==z.2.1))))] [([],⟨rbz,roz,none⟩,c.objects.length,(j:Int),3,⟨rbz,roz+j*3,none⟩),([(9,true)],⟨rbz,roz,none⟩,c.objects.length,(j:Int),3,⟨rbz,roz+j*3,none⟩)] [] [] [] hR hM hB mix ⟨fun hg=>SX.ix_ok hjo,fun hg=>SX.ix_ok hjo,trivial⟩ trivial (fun w' hb' hM'=>trivial) (fun w' hb' hM'=>trivial) fun a101 w102 hR hb103 hB hM=>?_
      refine SX.cond_ ((x2.1==z.1)&&(x2.2.1==z.2.1)) hR (by kernel_rfl) (fun h104=>?_) (fun h104=>?_)
      ·skip
       refine SX.qs [.ld []] [1,2,5,6,7,39,40,41,95,96,97] [(.e 2 (.bool false))] hR hM hB mix fun a105 w106 hR hb107 hB hM=>?_
       refine wp_ret ?_
       try simp only [Exit.then,Exit.inBlock,Nat.reduceEqDiff,↓reduceIte]
       refine SX.ret_ 2 (.bool false) Try.results57 hR (by kernel_rfl) ?_
       clear hR hM mix hK1 hzn5 hb4 hkn5 hln5 hn5 hb8 hK9 hb12 hK17 hb20 hm23 hb26 hK27 hK54 hb57 hm60 hb63 hK64 hK66 hK67 hb70 hzn74 hb73 hkn74 hln74 hn74 hnen74 hb77 hb80 hK81 hb84 hb91 hm94 hK95 hb98 hK100 hb103 hb107
       refine ⟨ret_bool ?_,hB⟩
       unfold R.heads
       rw [show R.paramsAt c 0=x.params from params_at (i:=0) hx]
       have e1:((c.blocks.length:Int)==0)=(c.blocks.length==0):=by rw [Bool.eq_iff_iff]; simp
       have e2:((c.contexts.length:Int)==0)=(c.contexts.length==0):=by rw [Bool.eq_iff_iff]; simp
       rw [e1,e2] at h13
       rw [h13]
       unfold R.ctxs R.objs; rw [← hctx,← allAt_no hz (p:=fun i x=>R.obj1 c.contexts.length x&&(c.objects.take i).all (fun y=>!(y.1==x.1&&y.2.1==x.2.1))) (by rw [take_no hx2 hlj (by rw [h104]; rfl),Bool.and_false])]; rfl
      ·skip
       refine wp_skip ?_
       refine hK100 _ _ ?_
       refine SX.qf0 [] [.ld [],.nm (.I ((j+1:Nat):Int)),.ld []] [1,5,6,7,39,40,41,95,96,97] [(.e 7 (.I ((j+1:Nat):Int)))] [] [] [] [([],(.I (IntKind.i64.wrap ((j:Int)+1))),(.I ((j+1:Nat):Int)))] hR hM hB mix trivial ⟨fun hg=>SX.wrap_ok (by omega),trivial⟩ (fun w' hb' hM'=>trivial) (fun w' hb' hM'=>trivial) fun a108 w109 hR hb110 hB hM=>?_
       exact ⟨m-(j+1),by omega,j+1,rfl,by omega,hR.keep (ts:=[1,5,6,7,39,40,41,95,96,97]) (by kernel_rfl),hB,SX.cells_sub hM [3,4,5,6,7,8,9,10,11,12,13,14,15,16,17,18,19,20,21,22] (by kernel_rfl),hIj.step hx2 (by rw [h104]; rfl)⟩
     ·skip
      refine wp_exit ?_
      refine hK66 _ _ ?_
      refine SX.qf0 [] [.nm (.I ((m+1:Nat):Int)),.ld []] [1,5,6,7,39,40,41,95,96,97] [(.e 97 (.I ((m+1:Nat):Int)))] [] [] [] [([],(.I (IntKind.i64.wrap ((m:Int)+1))),(.I ((m+1:Nat):Int)))] hR hM hB mix trivial ⟨fun hg=>SX.wrap_ok (by omega),trivial⟩ (fun w' hb' hM'=>trivial) (fun w' hb' hM'=>trivial) fun a111 w112 hR hb113 hB hM=>?_
      exact ⟨c.objects.length-(m+1),by omega,m+1,rfl,by omega,hR.keep (ts:=[1,39,40,41,95,96,97]) (by kernel_rfl),hB,SX.cells_sub hM [6,7,8,9,10,11,12,13,14,15,16,17,18,19] (by kernel_rfl),hIm.step hz (by have:=h85; rw [objR_eq] at this; rw [show R.obj1 c.contexts.length z=true from by simpa using this,hIj.take_all (le_of_dec h99)]; rfl)⟩
   ·skip
    refine wp_exit ?_
    refine hK54 _ _ ?_
    refine SX.qs [.ld []] [1,2,39,40,41,95,96,97] [(.e 2 (.bool true))] hR hM hB mix fun a114 w115 hR hb116 hB hM=>?_
    refine wp_ret ?_
    try simp only [Exit.then,Exit.inBlock,Nat.reduceEqDiff,↓reduceIte]
    refine SX.ret_ 2 (.bool true) Try.results57 hR (by kernel_rfl) ?_
    clear hR hM mix hK1 hzn5 hb4 hkn5 hln5 hn5 hb8 hK9 hb12 hK17 hb20 hm23 hb26 hK27 hK54 hb57 hm60 hb63 hK64 hb116
    refine ⟨ret_bool ?_,hB⟩
    unfold R.heads
    rw [show R.paramsAt c 0=x.params from params_at (i:=0) hx]
    have e1:((c.blocks.length:Int)==0)=(c.blocks.length==0):=by rw [Bool.eq_iff_iff]; simp
    have e2:((c.contexts.length:Int)==0)=(c.contexts.length==0):=by rw [Bool.eq_iff_iff]; simp
    rw [e1,e2] at h13
    rw [h13]
    unfold R.ctxs R.objs; rw [← hctx,← hIm.allAt (le_of_dec h65)]; rfl

set_option maxHeartbeats 400000 in
theorem heads_nil (c:CodeD) (v1 v2 v3:Value) (w:World) (h:CodeAt w v1 v2 v3 c) (hne:c.blocks.length=0):Calls Try.prog 57 #[(.agg #[.I c.params,v1,v2,v3])] w fun e w'=>e=.returned (.bool (R.heads c))∧Below w.heap.size w w':=by
 have h0:=h
 obtain ⟨A1,k1,rfl,s1⟩:=h.2.1.shape
 obtain ⟨A2,k2,rfl,s2⟩:=h.2.2.1.shape
 obtain ⟨A3,k3,rfl,s3⟩:=h.2.2.2.shape
 unfold Shape at s1 s2 s3
 have mix:=mixed
 have hB:Below w.heap.size w w:=Below.refl _ _
 have hM:SX.Cells w []:=SX.cells_nil
 refine SX.enter [(.agg #[.I c.params,.slice A1 c.blocks.length k1,.slice A2 c.contexts.length k2,.slice A3 c.objects.length k3])] 159 Try.func57 rfl rfl (by kernel_rfl) ?_
 intro a hR
 refine wp_seq_k fun K1 hK1=>?_
 refine SX.region_l ?_
 obtain ⟨n5,hn5⟩:∃ n,w.heap.size=n:=⟨_,rfl⟩
 have hzn5:w.heap.size≤n5:=by have:=hB.size; omega
 refine SX.list_box 0 n5 [(.I c.params),(.slice A1 c.blocks.length k1),(.slice A2 c.contexts.length k2),(.slice A3 c.objects.length k3)] 26 ((.e 1 (.P n5))::[(.e 0 (.agg #[.I c.params,.slice A1 c.blocks.length k1,.slice A2 c.contexts.length k2,.slice A3 c.objects.length k3]))]) [(⟨n5,0,none⟩,(.I c.params)),(⟨n5,1,none⟩,(.slice A1 c.blocks.length k1)),(⟨n5,2,none⟩,(.slice A2 c.contexts.length k2)),(⟨n5,3,none⟩,(.slice A3 c.objects.length k3))] hR hM hn5 (by kernel_rfl) (by kernel_rfl) ?_
 clear hR hM; intro a2 w3 hR hb4 hM hkn5 hln5
 replace hB:=hB.tr hb4
 replace hR:SX.RSt 159 [] [(.e 1 (.P n5))] a2:=hR.keep (ts:=[1]) (by kernel_rfl)
 refine SX.list_q0 (κ:=[]) 1 1 [.ld []] [1] [(.e 1 (.P n5))] hR hM (by kernel_rfl) (by kernel_rfl) ?_
 clear hR hM; intro a6 w7 hR hb8 hM
 replace hB:=hB.tr hb8
 replace hkn5:=SX.blk_below hkn5 hb8
 refine SX.list_end 2 (by kernel_rfl) ?_
 refine hK1 _ _ ?_
 refine wp_seq_k fun K9 hK9=>?_
 refine SX.qf [(3,decide (c.params<0)),(8,(decide (c.params<0)||decide (4<c.params))),(14,((decide (c.params<0)||decide (4<c.params))||((c.blocks.length:Int)==0))),(24,(((decide (c.params<0)||decide (4<c.params))||((c.blocks.length:Int)==0))||(0 != c.params)))] [.ld [],.ld [0],.ld [],.ld [],.ld [],.ld [0],.ld [],.pk,.ld [],.ld [],.ld [1],.ld [],.ld [],.pk,.ld [],.ld [],.ld [1],.hd (.P 0),.ld [],.hd (.I 0),.ld [],.ld [0],.ld [],.pk,.ld [],.ld [],.ld [2],.ld [],.ld [],.pk] [1,37] [(.e 37 (.bool ((((decide (c.params<0)||decide (4<c.params))||((c.blocks.length:Int)==0))||(0 != c.params))||((c.contexts.length:Int)==0))))] [] [([(14,false)],ixS 22 (.slice A1 c.blocks.length k1) (.I 0),(.P 0)),([(14,false)],ldS 3 (.P 0),(.I 0))] [] [] hR hM hB mix trivial trivial (fun w' hb' hM'=>⟨fun hg=>absurd hg (by simp [SX.pv,SX.kv,hne]),fun hg=>absurd hg (by simp [SX.pv,SX.kv,hne]),trivial⟩) (fun w' hb' hM'=>trivial) fun a10 w11 hR hb12 hB hM=>?_
 replace hkn5:=SX.blk_below hkn5 hb12
 refine SX.cond_ ((((decide (c.params<0)||decide (4<c.params))||((c.blocks.length:Int)==0))||(0 != c.params))||((c.contexts.length:Int)==0)) hR (by kernel_rfl) (fun h13=>?_) (fun h13=>?_)
 ·skip
  refine SX.qs [.ld []] [2] [(.e 2 (.bool false))] hR hM hB mix fun a14 w15 hR hb16 hB hM=>?_
  replace hkn5:=SX.blk_below hkn5 hb16
  refine wp_ret ?_
  try simp only [Exit.then,Exit.inBlock,Nat.reduceEqDiff,↓reduceIte]
  refine SX.ret_ 2 (.bool false) Try.results57 hR (by kernel_rfl) ?_
  clear hR hM mix hK1 hzn5 hb4 hkn5 hln5 hn5 hb8 hK9 hb12 hb16
  refine ⟨ret_bool ?_,hB⟩
  unfold R.heads
  have e1:((c.blocks.length:Int)==0)=(c.blocks.length==0):=by rw [Bool.eq_iff_iff]; simp
  have e2:((c.contexts.length:Int)==0)=(c.contexts.length==0):=by rw [Bool.eq_iff_iff]; simp
  rw [e1,e2] at h13
  simp [hne]
 ·skip
  exact absurd h13 (by simp [hne])

theorem heads_any (c:CodeD) (v1 v2 v3:Value) (w:World) (h:CodeAt w v1 v2 v3 c):Calls Try.prog 57 #[(.agg #[.I c.params,v1,v2,v3])] w fun e w'=>e=.returned (.bool (R.heads c))∧Below w.heap.size w w':=by
 rcases Nat.eq_zero_or_pos c.blocks.length with hne | hne
 ·exact heads_nil c v1 v2 v3 w h hne
 ·exact heads_cons c v1 v2 v3 w h hne
end Go.Proofs.Ytlkcidmmpeebeaa
