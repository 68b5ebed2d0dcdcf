/- Proved: rightEdge,rightHead,all -/
import Derived.Test.YtlkcidmmpeebeaaSmall2
set_option linter.unusedVariables false
set_option linter.unusedSimpArgs false
namespace Go.Proofs.Ytlkcidmmpeebeaa
open Go.RowKit
set_option maxRecDepth 100000
set_option maxHeartbeats 400000 in
theorem rightEdge_any (c:CodeD) (v1 v2 v3:Value) (w:World) (h:CodeAt w v1 v2 v3 c) (blk kind:Int) (u:Value) (args:List Int) (hu:IntsAt w u args):Calls Try.prog 157 #[(.agg #[.I c.params,v1,v2,v3]),.agg #[.I blk,u],.I kind] w fun e w'=>e=.returned (.bool (P.rightEdge c blk args kind))∧Below w.heap.size w w':=by
 have h0:=h
 obtain ⟨A1,k1,rfl,s1⟩:=h.2.1.shape
 obtain ⟨A2,k2,rfl,s2⟩:=h.2.2.1.shape
 obtain ⟨A3,k3,rfl,s3⟩:=h.2.2.2.shape
 unfold Shape at s1 s2 s3
 obtain ⟨Au,ku,rfl,su⟩:=hu.shape
 unfold Shape at su
 have mix:=mixed
 have hB:Below w.heap.size w w:=Below.refl _ _
 have hM:SX.Cells w []:=SX.cells_nil
 refine SX.enter [(.agg #[.I c.params,.slice A1 c.blocks.length k1,.slice A2 c.contexts.length k2,.slice A3 c.objects.length k3]),(.agg #[.I blk,.slice Au args.length ku]),(.I kind)] 35 Try.func157 rfl rfl (by kernel_rfl) ?_
 intro a hR
 refine wp_seq_k fun K1 hK1=>?_
 refine SX.region_l ?_
 obtain ⟨n5,hn5⟩:∃ n,w.heap.size=n:=⟨_,rfl⟩
 have hzn5:w.heap.size≤n5:=by have:=hB.size; omega
 refine SX.list_box 0 n5 [(.I c.params),(.slice A1 c.blocks.length k1),(.slice A2 c.contexts.length k2),(.slice A3 c.objects.length k3)] 26 ((.e 3 (.P n5))::[(.e 0 (.agg #[.I c.params,.slice A1 c.blocks.length k1,.slice A2 c.contexts.length k2,.slice A3 c.objects.length k3])),(.e 1 (.agg #[.I blk,.slice Au args.length ku])),(.e 2 (.I kind))]) [(⟨n5,0,none⟩,(.I c.params)),(⟨n5,1,none⟩,(.slice A1 c.blocks.length k1)),(⟨n5,2,none⟩,(.slice A2 c.contexts.length k2)),(⟨n5,3,none⟩,(.slice A3 c.objects.length k3))] hR hM hn5 (by kernel_rfl) (by kernel_rfl) ?_
 clear hR hM; intro a2 w3 hR hb4 hM hkn5 hln5
 replace hB:=hB.tr hb4
 replace hR:SX.RSt 35 [] [(.e 1 (.agg #[.I blk,.slice Au args.length ku])),(.e 2 (.I kind)),(.e 3 (.P n5))] a2:=hR.keep (ts:=[1,2,3]) (by kernel_rfl)
 obtain ⟨n9,hn9⟩:∃ n,w3.heap.size=n:=⟨_,rfl⟩
 have hzn9:w.heap.size≤n9:=by have:=hB.size; omega
 have qn5n9:n5<n9:=by have:=(Array.getElem?_eq_some_iff.1 hkn5).1; omega
 refine SX.list_box 1 n9 [(.I blk),(.slice Au args.length ku)] 57 ((.e 4 (.P n9))::[(.e 1 (.agg #[.I blk,.slice Au args.length ku])),(.e 2 (.I kind)),(.e 3 (.P n5))]) [(⟨n9,0,none⟩,(.I blk)),(⟨n9,1,none⟩,(.slice Au args.length ku)),(⟨n5,0,none⟩,(.I c.params)),(⟨n5,1,none⟩,(.slice A1 c.blocks.length k1)),(⟨n5,2,none⟩,(.slice A2 c.contexts.length k2)),(⟨n5,3,none⟩,(.slice A3 c.objects.length k3))] hR hM hn9 (by kernel_rfl) (by kernel_rfl) ?_
 clear hR hM; intro a6 w7 hR hb8 hM hkn9 hln9
 replace hB:=hB.tr hb8
 replace hkn5:=SX.blk_below hkn5 hb8
 replace hR:SX.RSt 35 [] [(.e 2 (.I kind)),(.e 3 (.P n5)),(.e 4 (.P n9))] a6:=hR.keep (ts:=[2,3,4]) (by kernel_rfl)
 refine SX.list_q0 (κ:=[]) 2 1 [.ld []] [2,3,4] [(.e 2 (.I kind)),(.e 3 (.P n5)),(.e 4 (.P n9))] hR hM (by kernel_rfl) (by kernel_rfl) ?_
 clear hR hM; intro a10 w11 hR hb12 hM
 replace hB:=hB.tr hb12
 replace hkn5:=SX.blk_below hkn5 hb12
 replace hkn9:=SX.blk_below hkn9 hb12
 refine SX.list_end 3 (by kernel_rfl) ?_
 refine hK1 _ _ ?_
 refine wp_seq_k fun K13 hK13=>?_
 refine wp_seq_k fun K14 hK14=>?_
 refine SX.region_q [(3,decide (blk<1))] [.ld [],.ld [0],.ld [],.ld [],.ld [],.ld [0],.ld [],.ld [3],.ld [],.ld [],.pk] [2,3,4,18] [(.e 2 (.I kind)),(.e 3 (.P n5)),(.e 4 (.P n9)),(.e 18 (.bool (decide (blk<1)||decide (((c.blocks.length:Nat):Int)≤blk))))] [] [] [] [] hR hM mix (by kernel_rfl) (by kernel_rfl) (by kernel_rfl) (by kernel_rfl) trivial trivial (fun w' hb' hM'=>trivial) (fun w' hb' hM'=>trivial) ?_
 clear hR hM; intro a15 w16 hR hb17 hM
 replace hB:=hB.tr hb17
 replace hkn5:=SX.blk_below hkn5 hb17
 replace hkn9:=SX.blk_below hkn9 hb17
 refine hK14 _ _ ?_
 refine SX.cond_ (decide (blk<1)||decide (((c.blocks.length:Nat):Int)≤blk)) hR (by kernel_rfl) (fun h18=>?_) (fun h18=>?_)
 ·skip
  refine wp_seq_k fun K19 hK19=>?_
  refine SX.region_q0 [.ld []] [6] [(.e 6 (.bool false))] hR hM mix (by kernel_rfl) (by kernel_rfl) (by kernel_rfl) (by kernel_rfl) ?_
  clear hR hM; intro a20 w21 hR hb22 hM
  replace hB:=hB.tr hb22
  replace hkn5:=SX.blk_below hkn5 hb22
  replace hkn9:=SX.blk_below hkn9 hb22
  refine hK19 _ _ ?_
  refine wp_ret ?_
  try simp only [Exit.then,Exit.inBlock,Nat.reduceEqDiff,↓reduceIte]
  refine SX.ret_ 6 (.bool false) Try.results157 hR (by kernel_rfl) ?_
  clear hR hM mix hK1 hzn5 hb4 hkn5 hln5 hn5 hzn9 qn5n9 hb8 hkn9 hln9 hn9 hb12 hK13 hK14 hb17 hK19 hb22
  refine ⟨ret_bool ?_,hB⟩
  unfold P.rightEdge
  simp only [h18,Bool.false_eq_true,↓reduceIte]
 ·skip
  refine wp_skip ?_
  refine hK13 _ _ ?_
  refine wp_seq_k fun K23 hK23=>?_
  refine SX.region_q0 [.ld [],.ld [1],.ld [],.ld []] [2,3,4,7] [(.e 2 (.I kind)),(.e 3 (.P n5)),(.e 4 (.P n9)),(.e 7 (.I ((args.length:Nat):Int)))] hR hM mix (by kernel_rfl) (by kernel_rfl) (by kernel_rfl) (by kernel_rfl) ?_
  clear hR hM; intro a24 w25 hR hb26 hM
  replace hB:=hB.tr hb26
  replace hkn5:=SX.blk_below hkn5 hb26
  replace hkn9:=SX.blk_below hkn9 hb26
  refine hK23 _ _ ?_
  refine wp_seq_k fun K27 hK27=>?_
  refine wp_seq_k fun K28 hK28=>?_
  refine SX.region_q0 [.ld [],.ld []] [3,4,7,23] [(.e 3 (.P n5)),(.e 4 (.P n9)),(.e 7 (.I ((args.length:Nat):Int))),(.e 23 (.bool (kind==3)))] hR hM mix (by kernel_rfl) (by kernel_rfl) (by kernel_rfl) (by kernel_rfl) ?_
  clear hR hM; intro a29 w30 hR hb31 hM
  replace hB:=hB.tr hb31
  replace hkn5:=SX.blk_below hkn5 hb31
  replace hkn9:=SX.blk_below hkn9 hb31
  refine hK28 _ _ ?_
  refine SX.cond_ (kind==3) hR (by kernel_rfl) (fun h32=>?_) (fun h32=>?_)
  ·skip
   refine SX.region_q [] [.ld [],.nm (.I ((args.length+1:Nat):Int)),.ld []] [3,4,7] [(.e 3 (.P n5)),(.e 4 (.P n9)),(.e 7 (.I ((args.length+1:Nat):Int)))] [] [] [] [([],(.I (IntKind.i64.wrap (((args.length:Nat):Int)+1))),(.I ((args.length+1:Nat):Int)))] hR hM mix (by kernel_rfl) (by kernel_rfl) (by kernel_rfl) (by kernel_rfl) trivial ⟨fun hg=>SX.wrap_ok (by omega),trivial⟩ (fun w' hb' hM'=>trivial) (fun w' hb' hM'=>trivial) ?_
   clear hR hM; intro a33 w34 hR hb35 hM
   replace hB:=hB.tr hb35
   replace hkn5:=SX.blk_below hkn5 hb35
   replace hkn9:=SX.blk_below hkn9 hb35
   refine hK27 _ _ ?_
   refine wp_seq_k fun K36 hK36=>?_
   have hb0:0≤blk∧blk<(c.blocks.length:Int):=by simp only [Bool.or_eq_false_iff,decide_eq_false_iff_not] at h18; omega
   obtain ⟨x,hx⟩:=get_of_lt (l:=c.blocks) (k:=blk.toNat) (by omega)
   obtain ⟨bbx,box,hAx,B1x,j1x,B2x,j2x,B3x,j3x,B4x,j4x,hsx,hblx,cb0x,cb1x,cb2x,cb3x,cb4x,cb5x,cb6x,cb7x,cb8x,cb9x⟩:=h0.2.1.elem hx
   subst hAx; unfold Shape at hsx
   have hox:bbx<w.heap.size:=World.block_lt_of_cell? w _ cb0x
   replace hM:=(SX.cells_add (cell_below hB cb0x) (SX.cells_add (cell_below hB cb1x) (SX.cells_add (cell_below hB cb2x) (SX.cells_add (cell_below hB cb3x) (SX.cells_add (cell_below hB cb4x) (SX.cells_add (cell_below hB cb5x) (SX.cells_add (cell_below hB cb6x) (SX.cells_add (cell_below hB cb7x) (SX.cells_add (cell_below hB cb8x) (SX.cells_add (cell_below hB cb9x) hM))))))))))
   refine SX.region_q [] [.ld [],.ld [],.ld [13],.ld [],.ld [10],.ix ⟨bbx,box+blk.toNat*10,none⟩,.ld [],.ld [0],.ld [],.ld []] [6] [(.e 6 (.bool (((args.length+1:Nat):Int)==x.params)))] [([],⟨bbx,box,none⟩,c.blocks.length,blk,10,⟨bbx,box+blk.toNat*10,none⟩)] [] [] [] hR hM mix (by kernel_rfl) (by kernel_rfl) (by kernel_rfl) (by kernel_rfl) ⟨fun hg=>ix_int hb0.1 hb0.2,trivial⟩ trivial (fun w' hb' hM'=>trivial) (fun w' hb' hM'=>trivial) ?_
   clear hR hM; intro a37 w38 hR hb39 hM
   replace hB:=hB.tr hb39
   replace hkn5:=SX.blk_below hkn5 hb39
   replace hkn9:=SX.blk_below hkn9 hb39
   refine hK36 _ _ ?_
   refine wp_ret ?_
   try simp only [Exit.then,Exit.inBlock,Nat.reduceEqDiff,↓reduceIte]
   refine SX.ret_ 6 (.bool (((args.length+1:Nat):Int)==x.params)) Try.results157 hR (by kernel_rfl) ?_
   clear hR hM mix hK1 hzn5 hb4 hkn5 hln5 hn5 hzn9 qn5n9 hb8 hkn9 hln9 hn9 hb12 hK13 hK14 hb17 hK23 hb26 hK27 hK28 hb31 hb35 hK36 hb39
   refine ⟨ret_bool ?_,hB⟩
   unfold P.rightEdge
   simp only [h18,h32,Bool.false_eq_true,↓reduceIte,params_at hx]
   try rfl
  ·skip
   refine wp_skip ?_
   refine hK27 _ _ ?_
   refine wp_seq_k fun K40 hK40=>?_
   have hb0:0≤blk∧blk<(c.blocks.length:Int):=by simp only [Bool.or_eq_false_iff,decide_eq_false_iff_not] at h18; omega
   obtain ⟨x,hx⟩:=get_of_lt (l:=c.blocks) (k:=blk.toNat) (by omega)
   obtain ⟨bbx,box,hAx,B1x,j1x,B2x,j2x,B3x,j3x,B4x,j4x,hsx,hblx,cb0x,cb1x,cb2x,cb3x,cb4x,cb5x,cb6x,cb7x,cb8x,cb9x⟩:=h0.2.1.elem hx
   subst hAx; unfold Shape at hsx
   have hox:bbx<w.heap.size:=World.block_lt_of_cell? w _ cb0x
   replace hM:=(SX.cells_add (cell_below hB cb0x) (SX.cells_add (cell_below hB cb1x) (SX.cells_add (cell_below hB cb2x) (SX.cells_add (cell_below hB cb3x) (SX.cells_add (cell_below hB cb4x) (SX.cells_add (cell_below hB cb5x) (SX.cells_add (cell_below hB cb6x) (SX.cells_add (cell_below hB cb7x) (SX.cells_add (cell_below hB cb8x) (SX.cells_add (cell_below hB cb9x) hM))))))))))
   refine SX.region_q [] [.ld [],.ld [],.ld [13],.ld [],.ld [10],.ix ⟨bbx,box+blk.toNat*10,none⟩,.ld [],.ld [0],.ld [],.ld []] [6] [(.e 6 (.bool (((args.length:Nat):Int)==x.params)))] [([],⟨bbx,box,none⟩,c.blocks.length,blk,10,⟨bbx,box+blk.toNat*10,none⟩)] [] [] [] hR hM mix (by kernel_rfl) (by kernel_rfl) (by kernel_rfl) (by kernel_rfl) ⟨fun hg=>ix_int hb0.1 hb0.2,trivial⟩ trivial (fun w' hb' hM'=>trivial) (fun w' hb' hM'=>trivial) ?_
   clear hR hM; intro a41 w42 hR hb43 hM
   replace hB:=hB.tr hb43
   replace hkn5:=SX.blk_below hkn5 hb43
   replace hkn9:=SX.blk_below hkn9 hb43
   refine hK40 _ _ ?_
   refine wp_ret ?_
   try simp only [Exit.then,Exit.inBlock,Nat.reduceEqDiff,↓reduceIte]
   refine SX.ret_ 6 (.bool (((args.length:Nat):Int)==x.params)) Try.results157 hR (by kernel_rfl) ?_
   clear hR hM mix hK1 hzn5 hb4 hkn5 hln5 hn5 hzn9 qn5n9 hb8 hkn9 hln9 hn9 hb12 hK13 hK14 hb17 hK23 hb26 hK27 hK28 hb31 hK40 hb43
   refine ⟨ret_bool ?_,hB⟩
   unfold P.rightEdge
   simp only [h18,h32,Bool.false_eq_true,↓reduceIte,params_at hx]
   try rfl

set_option maxHeartbeats 400000 in
theorem rightHead_cons (c:CodeD) (v1 v2 v3:Value) (w:World) (h:CodeAt w v1 v2 v3 c) (hne:0<c.blocks.length):Calls Try.prog 81 #[(.agg #[.I c.params,v1,v2,v3])] w fun e w'=>e=.returned (.bool (P.rightHead c))∧Below w.heap.size w w':=by
 have h0:=h
 obtain ⟨A1,k1,rfl,s1⟩:=h.2.1.shape
 obtain ⟨A2,k2,rfl,s2⟩:=h.2.2.1.shape
 obtain ⟨A3,k3,rfl,s3⟩:=h.2.2.2.shape
 unfold Shape at s1 s2 s3
 have mix:=mixed
 have hB:Below w.heap.size w w:=Below.refl _ _
 have hM:SX.Cells w []:=SX.cells_nil
 refine SX.enter [(.agg #[.I c.params,.slice A1 c.blocks.length k1,.slice A2 c.contexts.length k2,.slice A3 c.objects.length k3])] 22 Try.func81 rfl rfl (by kernel_rfl) ?_
 intro a hR
 refine wp_seq_k fun K1 hK1=>?_
 refine SX.region_l ?_
 obtain ⟨n5,hn5⟩:∃ n,w.heap.size=n:=⟨_,rfl⟩
 have hzn5:w.heap.size≤n5:=by have:=hB.size; omega
 refine SX.list_box 0 n5 [(.I c.params),(.slice A1 c.blocks.length k1),(.slice A2 c.contexts.length k2),(.slice A3 c.objects.length k3)] 26 ((.e 1 (.P n5))::[(.e 0 (.agg #[.I c.params,.slice A1 c.blocks.length k1,.slice A2 c.contexts.length k2,.slice A3 c.objects.length k3]))]) [(⟨n5,0,none⟩,(.I c.params)),(⟨n5,1,none⟩,(.slice A1 c.blocks.length k1)),(⟨n5,2,none⟩,(.slice A2 c.contexts.length k2)),(⟨n5,3,none⟩,(.slice A3 c.objects.length k3))] hR hM hn5 (by kernel_rfl) (by kernel_rfl) ?_
 clear hR hM; intro a2 w3 hR hb4 hM hkn5 hln5
 replace hB:=hB.tr hb4
 replace hR:SX.RSt 22 [] [(.e 1 (.P n5))] a2:=hR.keep (ts:=[1]) (by kernel_rfl)
 refine SX.list_q0 (κ:=[]) 1 1 [.ld []] [1] [(.e 1 (.P n5))] hR hM (by kernel_rfl) (by kernel_rfl) ?_
 clear hR hM; intro a6 w7 hR hb8 hM
 replace hB:=hB.tr hb8
 replace hkn5:=SX.blk_below hkn5 hb8
 refine SX.list_end 2 (by kernel_rfl) ?_
 refine hK1 _ _ ?_
 refine wp_seq_k fun K9 hK9=>?_
 obtain ⟨x,hx⟩:=get_of_lt (l:=c.blocks) (k:=0) (by omega)
 obtain ⟨bbx,box,hAx,B1x,j1x,B2x,j2x,B3x,j3x,B4x,j4x,hsx,hblx,cb0x,cb1x,cb2x,cb3x,cb4x,cb5x,cb6x,cb7x,cb8x,cb9x⟩:=h0.2.1.elem hx
 subst hAx; unfold Shape at hsx
 have hox:bbx<w.heap.size:=World.block_lt_of_cell? w _ cb0x
 replace hM:=(SX.cells_add (cell_below hB cb0x) (SX.cells_add (cell_below hB cb1x) (SX.cells_add (cell_below hB cb2x) (SX.cells_add (cell_below hB cb3x) (SX.cells_add (cell_below hB cb4x) (SX.cells_add (cell_below hB cb5x) (SX.cells_add (cell_below hB cb6x) (SX.cells_add (cell_below hB cb7x) (SX.cells_add (cell_below hB cb8x) (SX.cells_add (cell_below hB cb9x) hM))))))))))
 refine SX.region_q [(3,(P.within c.params 4)),(9,((P.within c.params 4)&&decide (0<((c.blocks.length:Nat):Int))))] [.ld [],.ld [10],.cl (.bool (P.within c.params 4)),.ld [],.ld [],.ld [11],.ld [],.ld [],.pk,.ld [],.ld [],.ld [11],.ix ⟨bbx,box+0*10,none⟩,.ld [],.ld [0],.ld [],.ld [10],.ld [],.pk,.ld []] [2] [(.e 2 (.bool (((P.within c.params 4)&&decide (0<((c.blocks.length:Nat):Int)))&&(x.params==c.params))))] [([(9,true)],⟨bbx,box,none⟩,c.blocks.length,0,10,⟨bbx,box+0*10,none⟩)] [] [([],84,#[(.I c.params),(.I 4)],(.bool (P.within c.params 4)))] [] hR hM mix (by kernel_rfl) (by kernel_rfl) (by kernel_rfl) (by kernel_rfl) ⟨fun hg=>SX.ix_ok (k:=0) (by omega),trivial⟩ trivial (fun w' hb' hM'=>trivial) (fun w' hb' hM'=>⟨fun hg=>SX.pureC (within_any _ _ _),trivial⟩) ?_
 clear hR hM; intro a10 w11 hR hb12 hM
 replace hB:=hB.tr hb12
 replace hkn5:=SX.blk_below hkn5 hb12
 refine hK9 _ _ ?_
 refine wp_ret ?_
 try simp only [Exit.then,Exit.inBlock,Nat.reduceEqDiff,↓reduceIte]
 refine SX.ret_ 2 (.bool (((P.within c.params 4)&&decide (0<((c.blocks.length:Nat):Int)))&&(x.params==c.params))) Try.results81 hR (by kernel_rfl) ?_
 clear hR hM mix hK1 hzn5 hb4 hkn5 hln5 hn5 hb8 hK9 hb12
 refine ⟨ret_bool ?_,hB⟩
 unfold P.rightHead
 rw [show R.paramsAt c 0=x.params from params_at (i:=0) hx]
 simp

set_option maxHeartbeats 400000 in
theorem rightHead_nil (c:CodeD) (v1 v2 v3:Value) (w:World) (h:CodeAt w v1 v2 v3 c) (hne:c.blocks.length=0):Calls Try.prog 81 #[(.agg #[.I c.params,v1,v2,v3])] w fun e w'=>e=.returned (.bool (P.rightHead c))∧Below w.heap.size w w':=by
 have h0:=h
 obtain ⟨A1,k1,rfl,s1⟩:=h.2.1.shape
 obtain ⟨A2,k2,rfl,s2⟩:=h.2.2.1.shape
 obtain ⟨A3,k3,rfl,s3⟩:=h.2.2.2.shape
 unfold Shape at s1 s2 s3
 have mix:=mixed
 have hB:Below w.heap.size w w:=Below.refl _ _
 have hM:SX.Cells w []:=SX.cells_nil
 refine SX.enter [(.agg #[.I c.params,.slice A1 c.blocks.length k1,.slice A2 c.contexts.length k2,.slice A3 c.objects.length k3])] 22 Try.func81 rfl rfl (by kernel_rfl) ?_
 intro a hR
 refine wp_seq_k fun K1 hK1=>?_
 refine SX.region_l ?_
 obtain ⟨n5,hn5⟩:∃ n,w.heap.size=n:=⟨_,rfl⟩
 have hzn5:w.heap.size≤n5:=by have:=hB.size; omega
 refine SX.list_box 0 n5 [(.I c.params),(.slice A1 c.blocks.length k1),(.slice A2 c.contexts.length k2),(.slice A3 c.objects.length k3)] 26 ((.e 1 (.P n5))::[(.e 0 (.agg #[.I c.params,.slice A1 c.blocks.length k1,.slice A2 c.contexts.length k2,.slice A3 c.objects.length k3]))]) [(⟨n5,0,none⟩,(.I c.params)),(⟨n5,1,none⟩,(.slice A1 c.blocks.length k1)),(⟨n5,2,none⟩,(.slice A2 c.contexts.length k2)),(⟨n5,3,none⟩,(.slice A3 c.objects.length k3))] hR hM hn5 (by kernel_rfl) (by kernel_rfl) ?_
 clear hR hM; intro a2 w3 hR hb4 hM hkn5 hln5
 replace hB:=hB.tr hb4
 replace hR:SX.RSt 22 [] [(.e 1 (.P n5))] a2:=hR.keep (ts:=[1]) (by kernel_rfl)
 refine SX.list_q0 (κ:=[]) 1 1 [.ld []] [1] [(.e 1 (.P n5))] hR hM (by kernel_rfl) (by kernel_rfl) ?_
 clear hR hM; intro a6 w7 hR hb8 hM
 replace hB:=hB.tr hb8
 replace hkn5:=SX.blk_below hkn5 hb8
 refine SX.list_end 2 (by kernel_rfl) ?_
 refine hK1 _ _ ?_
 refine wp_seq_k fun K9 hK9=>?_
 refine SX.region_q [(3,(P.within c.params 4)),(9,((P.within c.params 4)&&decide (0<((c.blocks.length:Nat):Int))))] [.ld [],.ld [0],.cl (.bool (P.within c.params 4)),.ld [],.ld [],.ld [1],.ld [],.ld [],.pk,.ld [],.ld [],.ld [1],.hd (.P 0),.ld [],.hd (.I 0),.ld [],.ld [0],.ld [],.pk,.ld []] [2] [(.e 2 (.bool (((P.within c.params 4)&&decide (0<((c.blocks.length:Nat):Int)))&&(0==c.params))))] [] [([(9,true)],ixS 22 (.slice A1 c.blocks.length k1) (.I 0),(.P 0)),([(9,true)],ldS 3 (.P 0),(.I 0))] [([],84,#[(.I c.params),(.I 4)],(.bool (P.within c.params 4)))] [] hR hM mix (by kernel_rfl) (by kernel_rfl) (by kernel_rfl) (by kernel_rfl) trivial trivial (fun w' hb' hM'=>⟨fun hg=>absurd hg (by simp [SX.pv,SX.kv,hne]),fun hg=>absurd hg (by simp [SX.pv,SX.kv,hne]),trivial⟩) (fun w' hb' hM'=>⟨fun hg=>SX.pureC (within_any _ _ _),trivial⟩) ?_
 clear hR hM; intro a10 w11 hR hb12 hM
 replace hB:=hB.tr hb12
 replace hkn5:=SX.blk_below hkn5 hb12
 refine hK9 _ _ ?_
 refine wp_ret ?_
 try simp only [Exit.then,Exit.inBlock,Nat.reduceEqDiff,↓reduceIte]
 refine SX.ret_ 2 (.bool (((P.within c.params 4)&&decide (0<((c.blocks.length:Nat):Int)))&&(0==c.params))) Try.results81 hR (by kernel_rfl) ?_
 clear hR hM mix hK1 hzn5 hb4 hkn5 hln5 hn5 hb8 hK9 hb12
 refine ⟨ret_bool ?_,hB⟩
 unfold P.rightHead
 simp [hne]

theorem rightHead_any (c:CodeD) (v1 v2 v3:Value) (w:World) (h:CodeAt w v1 v2 v3 c):Calls Try.prog 81 #[(.agg #[.I c.params,v1,v2,v3])] w fun e w'=>e=.returned (.bool (P.rightHead c))∧Below w.heap.size w w':=by
 rcases Nat.eq_zero_or_pos c.blocks.length with hne | hne
 ·exact rightHead_nil c v1 v2 v3 w h hne
 ·exact rightHead_cons c v1 v2 v3 w h hne

set_option maxHeartbeats 400000 in
theorem scAll_any (n:Int) (w:World) (u:Value) (xs:List Int) (hxs:IntsAt w u xs) (ps:Int) (mb:Nat) (D:List (Int × Int)) (hp:0≤ps∧ps≤999) (hD:MapI w mb D):Calls Try.prog 155 #[(.agg #[.I ps,.map (some mb)]),.I n,u] w fun e w'=>e=.returned (.bool (xs.all (fun x=>hasD ps D x n)))∧Below w.heap.size w w':=by
 have hxs0:=hxs
 obtain ⟨Ax,kx,rfl,sx⟩:=hxs.shape
 unfold Shape at sx
 have mix:=mixed
 have hB:Below w.heap.size w w:=Below.refl _ _
 have hM:SX.Cells w []:=SX.cells_nil
 refine SX.enter [(.agg #[.I ps,.map (some mb)]),(.I n),(.slice Ax xs.length kx)] 21 Try.func155 rfl rfl (by kernel_rfl) ?_
 intro a hR
 refine wp_seq_k fun K1 hK1=>?_
 refine SX.region_l ?_
 obtain ⟨n5,hn5⟩:∃ n,w.heap.size=n:=⟨_,rfl⟩
 have hzn5:w.heap.size≤n5:=by have:=hB.size; omega
 refine SX.list_box 0 n5 [(.I ps),(.map (some mb))] 183 ((.e 3 (.P n5))::[(.e 0 (.agg #[.I ps,.map (some mb)])),(.e 1 (.I n)),(.e 2 (.slice Ax xs.length kx))]) [(⟨n5,0,none⟩,(.I ps)),(⟨n5,1,none⟩,(.map (some mb)))] hR hM hn5 (by kernel_rfl) (by kernel_rfl) ?_
 clear hR hM; intro a2 w3 hR hb4 hM hkn5 hln5
 replace hB:=hB.tr hb4
 replace hR:SX.RSt 21 [] [(.e 1 (.I n)),(.e 2 (.slice Ax xs.length kx)),(.e 3 (.P n5))] a2:=hR.keep (ts:=[1,2,3]) (by kernel_rfl)
 refine SX.list_q0 (κ:=[]) 1 1 [.ld []] [1,2,3] [(.e 1 (.I n)),(.e 2 (.slice Ax xs.length kx)),(.e 3 (.P n5))] hR hM (by kernel_rfl) (by kernel_rfl) ?_
 clear hR hM; intro a6 w7 hR hb8 hM
 replace hB:=hB.tr hb8
 replace hkn5:=SX.blk_below hkn5 hb8
 refine SX.list_end 2 (by kernel_rfl) ?_
 refine hK1 _ _ ?_
 refine wp_seq_k fun K9 hK9=>?_
 refine wp_seq_k fun K10 hK10=>?_
 refine SX.region_q0 [.ld [],.ld [],.ld []] [1,3,9,10,11] [(.e 1 (.I n)),(.e 3 (.P n5)),(.e 9 (.slice Ax xs.length kx)),(.e 10 (.I ((xs.length:Nat):Int))),(.e 11 (.I 0))] hR hM mix (by kernel_rfl) (by kernel_rfl) (by kernel_rfl) (by kernel_rfl) ?_
 clear hR hM; intro a11 w12 hR hb13 hM
 replace hB:=hB.tr hb13
 replace hkn5:=SX.blk_below hkn5 hb13
 refine hK10 _ _ ?_
 refine wp_block ?_
 refine wp_loop_ghost (fun m16 a' w'=>∃ k:Nat,m16=xs.length-k∧k≤xs.length∧SX.RSt 21 [] [(.e 1 (.I n)),(.e 3 (.P n5)),(.e 9 (.slice Ax xs.length kx)),(.e 10 (.I ((xs.length:Nat):Int))),(.e 11 (.I ((k:Nat):Int)))] a'∧Below w.heap.size w w'∧SX.Cells w' [(⟨n5,0,none⟩,(.I ps)),(⟨n5,1,none⟩,(.map (some mb)))]∧Upto xs (fun _ x=>hasD ps D x n) k) (xs.length-0) ⟨0,rfl,Nat.zero_le _,hR.keep (ts:=[1,3,9,10,11]) (by kernel_rfl),hB,hM,Upto.zero⟩ ?_
 clear hR hM hB
 rintro m16 a14 w15 ⟨k,hm16,hlek,hR,hB,hM,hIk⟩
 refine wp_seq_k fun K17 hK17=>?_
 refine SX.region_q0 [.ld []] [1,3,9,10,11,12] [(.e 1 (.I n)),(.e 3 (.P n5)),(.e 9 (.slice Ax xs.length kx)),(.e 10 (.I ((xs.length:Nat):Int))),(.e 11 (.I ((k:Nat):Int))),(.e 12 (.bool (decide (((k:Nat):Int)<((xs.length:Nat):Int)))))] hR hM mix (by kernel_rfl) (by kernel_rfl) (by kernel_rfl) (by kernel_rfl) ?_
 clear hR hM; intro a18 w19 hR hb20 hM
 replace hB:=hB.tr hb20
 refine hK17 _ _ ?_
 refine wp_seq_k fun K21 hK21=>?_
 refine SX.cond_ (decide (((k:Nat):Int)<((xs.length:Nat):Int))) hR (by kernel_rfl) (fun h22=>?_) (fun h22=>?_)
 ·skip
  refine wp_skip ?_
  refine hK21 _ _ ?_
  refine wp_seq_k fun K23 hK23=>?_
  refine wp_block ?_
  refine wp_seq_k fun K24 hK24=>?_
  have hlt:k<xs.length:=lt_of_dec h22
  obtain ⟨x,hx⟩:=get_of_lt hlt
  obtain ⟨ibx,iox,hAx,hix,cix⟩:=hxs0.elem hx
  subst hAx
  have hox:ibx<w.heap.size:=World.block_lt_of_cell? w _ cix
  replace hM:=(SX.cells_add (cell_below hB cix) hM)
  refine SX.region_q [] [.ix ⟨ibx,iox+k*1,none⟩,.ld [0],.ld []] [1,3,8,9,10,11] [(.e 1 (.I n)),(.e 3 (.P n5)),(.e 8 (.I x)),(.e 9 (.slice (some ⟨ibx,iox,none⟩) xs.length kx)),(.e 10 (.I ((xs.length:Nat):Int))),(.e 11 (.I ((k:Nat):Int)))] [([],⟨ibx,iox,none⟩,xs.length,((k:Nat):Int),1,⟨ibx,iox+k*1,none⟩)] [] [] [] hR hM mix (by kernel_rfl) (by kernel_rfl) (by kernel_rfl) (by kernel_rfl) ⟨fun hg=>SX.ix_ok (by omega),trivial⟩ trivial (fun w' hb' hM'=>trivial) (fun w' hb' hM'=>trivial) ?_
  clear hR hM; intro a25 w26 hR hb27 hM
  replace hB:=hB.tr hb27
  refine hK24 _ _ ?_
  refine wp_seq_k fun K28 hK28=>?_
  refine SX.region_q [] [.ld [1,2],.ld [],.ld [],.cl (.bool (hasD ps D x n)),.ld []] [1,3,9,10,11,19] [(.e 1 (.I n)),(.e 3 (.P n5)),(.e 9 (.slice (some ⟨ibx,iox,none⟩) xs.length kx)),(.e 10 (.I ((xs.length:Nat):Int))),(.e 11 (.I ((k:Nat):Int))),(.e 19 (.bool (!(hasD ps D x n))))] [] [] [([],154,#[(.agg #[.I ps,.map (some mb)]),(.I x),(.I n)],(.bool (hasD ps D x n)))] [] hR hM mix (by kernel_rfl) (by kernel_rfl) (by kernel_rfl) (by kernel_rfl) trivial trivial (fun w' hb' hM'=>trivial) (fun w' hb' hM'=>⟨fun hg=>sc_has _ _ _ _ _ _ hp (hD.below (hB.tr hb')),trivial⟩) ?_
  clear hR hM; intro a29 w30 hR hb31 hM
  replace hB:=hB.tr hb31
  refine hK28 _ _ ?_
  refine SX.cond_ (!(hasD ps D x n)) hR (by kernel_rfl) (fun h32=>?_) (fun h32=>?_)
  ·skip
   refine wp_seq_k fun K33 hK33=>?_
   refine SX.region_q0 [.ld []] [1,3,6,9,10,11] [(.e 1 (.I n)),(.e 3 (.P n5)),(.e 6 (.bool false)),(.e 9 (.slice (some ⟨ibx,iox,none⟩) xs.length kx)),(.e 10 (.I ((xs.length:Nat):Int))),(.e 11 (.I ((k:Nat):Int)))] hR hM mix (by kernel_rfl) (by kernel_rfl) (by kernel_rfl) (by kernel_rfl) ?_
   clear hR hM; intro a34 w35 hR hb36 hM
   replace hB:=hB.tr hb36
   refine hK33 _ _ ?_
   refine wp_ret ?_
   try simp only [Exit.then,Exit.inBlock,Nat.reduceEqDiff,↓reduceIte]
   refine SX.ret_ 6 (.bool false) Try.results155 hR (by kernel_rfl) ?_
   clear hR hM mix hK1 hzn5 hb4 hkn5 hln5 hn5 hb8 hK9 hK10 hb13 hm16 hK17 hb20 hK21 hK23 hK24 hb27 hK28 hb31 hK33 hb36
   refine ⟨ret_bool ?_,hB⟩
   exact all_no hx (by simpa using h32)
  ·skip
   refine wp_skip ?_
   refine hK23 _ _ ?_
   refine SX.region_q [] [.nm (.I ((k+1:Nat):Int)),.ld []] [1,3,9,10,11] [(.e 1 (.I n)),(.e 3 (.P n5)),(.e 9 (.slice (some ⟨ibx,iox,none⟩) xs.length kx)),(.e 10 (.I ((xs.length:Nat):Int))),(.e 11 (.I ((k+1:Nat):Int)))] [] [] [] [([],(.I (IntKind.i64.wrap (((k:Nat):Int)+1))),(.I ((k+1:Nat):Int)))] hR hM mix (by kernel_rfl) (by kernel_rfl) (by kernel_rfl) (by kernel_rfl) trivial ⟨fun hg=>SX.wrap_ok (by omega),trivial⟩ (fun w' hb' hM'=>trivial) (fun w' hb' hM'=>trivial) ?_
   clear hR hM; intro a37 w38 hR hb39 hM
   replace hB:=hB.tr hb39
   exact ⟨xs.length-(k+1),by omega,k+1,rfl,by omega,hR.keep (ts:=[1,3,9,10,11]) (by kernel_rfl),hB,SX.cells_sub hM [1,2] (by kernel_rfl),hIk.step hx (by simpa using h32)⟩
 ·skip
  refine wp_exit ?_
  refine hK9 _ _ ?_
  refine wp_seq_k fun K40 hK40=>?_
  refine SX.region_q0 [.ld []] [1,3,6,9,10,11] [(.e 1 (.I n)),(.e 3 (.P n5)),(.e 6 (.bool true)),(.e 9 (.slice Ax xs.length kx)),(.e 10 (.I ((xs.length:Nat):Int))),(.e 11 (.I ((k:Nat):Int)))] hR hM mix (by kernel_rfl) (by kernel_rfl) (by kernel_rfl) (by kernel_rfl) ?_
  clear hR hM; intro a41 w42 hR hb43 hM
  replace hB:=hB.tr hb43
  refine hK40 _ _ ?_
  refine wp_ret ?_
  try simp only [Exit.then,Exit.inBlock,Nat.reduceEqDiff,↓reduceIte]
  refine SX.ret_ 6 (.bool true) Try.results155 hR (by kernel_rfl) ?_
  clear hR hM mix hK1 hzn5 hb4 hkn5 hln5 hn5 hb8 hK9 hK10 hb13 hm16 hK17 hb20 hK21 hK40 hb43
  refine ⟨ret_bool ?_,hB⟩
  exact hIk.all (le_of_dec h22)
end Go.Proofs.Ytlkcidmmpeebeaa
