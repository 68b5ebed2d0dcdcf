/- Proved: rightEdge,rightHead,all -/
import Derived.Test.YtlkcidmmpeebeaaSmall2
set_option linter.unusedVariables false
set_option linter.unusedSimpArgs false
namespace Go.Proofs.Ytlkcidmmpeebeaa
open Go.RowKit
set_option maxRecDepth 100000
set_option maxHeartbeats 400000 in
theorem rightEdge_any (c:CodeD) (v1 v2 v3:Value) (w:World) (h:CodeAt w v1 v2 v3 c) (blk kind:Int) (u:Value) (args:List Int) (hu:IntsAt w u args):Calls Try.prog 157 #[(.agg #[.I c.params,v1,v2,v3]),.agg #[.I blk,u],.I kind] w fun e w'=>e=.returned (.bool (P.rightEdge c blk args kind))∧Below w.heap.size w w':=by
 have h0:=h
 obtain ⟨A1,k1,rfl,s1⟩:=h.2.1.shape
 obtain ⟨A2,k2,rfl,s2⟩:=h.2.2.1.shape
 obtain ⟨A3,k3,rfl,s3⟩:=h.2.2.2.shape
 unfold Shape at s1 s2 s3
 obtain ⟨Au,ku,rfl,su⟩:=hu.shape
 unfold Shape at su
 have mix:=mixed
 have hB:Below w.heap.size w w:=Below.refl _ _
 have hM:SX.Cells w []:=SX.cells_nil
 refine SX.enter [(.agg #[.I c.params,.slice A1 c.blocks.length k1,.slice A2 c.contexts.length k2,.slice A3 c.objects.length k3]),(.agg #[.I blk,.slice Au args.length ku]),(.I kind)] 35 Try.func157 rfl rfl (by kernel_rfl) ?_
 intro a hR
 refine wp_seq_k fun K1 hK1=>?_
 refine SX.region_l ?_
 obtain ⟨n5,hn5⟩:∃ n,w.heap.size=n:=⟨_,rfl⟩
 have hzn5:w.heap.size≤n5:=by have:=hB.size; omega
 refine SX.list_box 0 n5 [(.I c.params),(.slice A1 c.blocks.length k1),(.slice A2 c.contexts.length k2),(.slice A3 c.objects.length k3)] 26 ((.e 3 (.P n5))::[(.e 0 (.agg #[.I c.params,.slice A1 c.blocks.length k1,.slice A2 c.contexts.length k2,.slice A3 c.objects.length k3])),(.e 1 (.agg #[.I blk,.slice Au args.length ku])),(.e 2 (.I kind))]) [(⟨n5,0,none⟩,(.I c.params)),(⟨n5,1,none⟩,(.slice A1 c.blocks.length k1)),(⟨n5,2,none⟩,(.slice A2 c.contexts.length k2)),(⟨n5,3,none⟩,(.slice A3 c.objects.length k3))] hR hM hn5 (by kernel_rfl) (by kernel_rfl) ?_
 clear hR hM; intro a2 w3 hR hb4 hM hkn5 hln5
 replace hB:=hB.tr hb4
 replace hR:SX.RSt 35 [] [(.e 1 (.agg #[.I blk,.slice Au args.length ku])),(.e 2 (.I kind)),(.e 3 (.P n5))] a2:=hR.keep (ts:=[1,2,3]) (by kernel_rfl)
 obtain ⟨n9,hn9⟩:∃ n,w3.heap.size=n:=⟨_,rfl⟩
 have hzn9:w.heap.size≤n9:=by have:=hB.size; omega
 have qn5n9:n5<n9:=by have:=(Array.getElem?_eq_some_iff.1 hkn5).1; omega
 refine SX.list_box 1 n9 [(.I blk),(.slice Au args.length ku)] 57 ((.e 4 (.P n9))::[(.e 1 (.agg #[.I blk,.slice Au args.length ku])),(.e 2 (.I kind)),(.e 3 (.P n5))]) [(⟨n9,0,none⟩,(.I blk)),(⟨n9,1,none⟩,(.slice Au args.length ku)),(⟨n5,0,none⟩,(.I c.params)),(⟨n5,1,none⟩,(.slice A1 c.blocks.length k1)),(⟨n5,2,none⟩,(.slice A2 c.contexts.length k2)),(⟨n5,3,none⟩,(.slice A3 c.objects.length k3))] hR hM hn9 (by kernel_rfl) (by kernel_rfl) ?_
 clear hR hM; intro a6 w7 hR hb8 hM hkn9 hln9
 replace hB:=hB.tr hb8
 replace hkn5:=SX.blk_below hkn5 hb8
 replace hR:SX.RSt 35 [] [(.e 2 (.I kind)),(.e 3 (.P n5)),(.e 4 (.P n9))] a6:=hR.keep (ts:=[2,3,4]) (by kernel_rfl)
 refine SX.list_q0 (κ:=[]) 2 1 [.ld []] [2,3,4] [(.e 2 (.I kind)),(.e 3 (.P n5)),(.e 4 (.P n9))] hR hM (by kernel_rfl) (by kernel_rfl) ?_
 clear hR hM; intro a10 w11 hR hb12 hM
 replace hB:=hB.tr hb12
 replace hkn5:=SX.blk_below hkn5 hb12
 replace hkn9:=SX.blk_below hkn9 hb12
 refine SX.list_end 3 (by kernel_rfl) ?_
 refine hK1 _ _ ?_
 refine wp_seq_k fun K13 hK13=>?_
 refine SX.qf [(3,decide (blk<1))] [.ld [],.ld [0],.ld [],.ld [],.ld [],.ld [0],.ld [],.ld [3],.ld [],.ld [],.pk] [2,3,4,18] [(.e 18 (.bool (decide (blk<1)||decide ((c.blocks.length:Int)≤blk))))] [] [] [] [] hR hM hB mix trivial trivial (fun w' hb' hM'=>trivial) (fun w' hb' hM'=>trivial) fun a14 w15 hR hb16 hB hM=>?_
 replace hkn5:=SX.blk_below hkn5 hb16
 replace hkn9:=SX.blk_below hkn9 hb16
 refine SX.cond_ (decide (blk<1)||decide ((c.blocks.length:Int)≤blk)) hR (by kernel_rfl) (fun h17=>?_) (fun h17=>?_)
 ·skip
  refine SX.qs [.ld []] [6] [(.e 6 (.bool false))] hR hM hB mix fun a18 w19 hR hb20 hB hM=>?_
  replace hkn5:=SX.blk_below hkn5 hb20
  replace hkn9:=SX.blk_below hkn9 hb20
  refine wp_ret ?_
  try simp only [Exit.then,Exit.inBlock,Nat.reduceEqDiff,↓reduceIte]
  refine SX.ret_ 6 (.bool false) Try.results157 hR (by kernel_rfl) ?_
  clear hR hM mix hK1 hzn5 hb4 hkn5 hln5 hn5 hzn9 qn5n9 hb8 hkn9 hln9 hn9 hb12 hK13 hb16 hb20
  refine ⟨ret_bool ?_,hB⟩
  unfold P.rightEdge
  simp only [h17,Bool.false_eq_true,↓reduceIte]
 ·skip
  refine wp_skip ?_
  refine hK13 _ _ ?_
  refine SX.qs [.ld [],.ld [1],.ld [],.ld []] [2,3,4,7] [(.e 7 (.I (args.length:Int)))] hR hM hB mix fun a21 w22 hR hb23 hB hM=>?_
  replace hkn5:=SX.blk_below hkn5 hb23
  replace hkn9:=SX.blk_below hkn9 hb23
  refine wp_seq_k fun K24 hK24=>?_
  refine SX.qs [.ld [],.ld []] [3,4,7,23] [(.e 23 (.bool (kind==3)))] hR hM hB mix fun a25 w26 hR hb27 hB hM=>?_
  replace hkn5:=SX.blk_below hkn5 hb27
  replace hkn9:=SX.blk_below hkn9 hb27
  refine SX.cond_ (kind==3) hR (by kernel_rfl) (fun h28=>?_) (fun h28=>?_)
  ·skip
   refine SX.qf0 [] [.ld [],.nm (.I ((args.length+1:Nat):Int)),.ld []] [3,4,7] [(.e 7 (.I ((args.length+1:Nat):Int)))] [] [] [] [([],(.I (IntKind.i64.wrap ((args.length:Int)+1))),(.I ((args.length+1:Nat):Int)))] hR hM hB mix trivial ⟨fun hg=>SX.wrap_ok (by omega),trivial⟩ (fun w' hb' hM'=>trivial) (fun w' hb' hM'=>trivial) fun a29 w30 hR hb31 hB hM=>?_
   replace hkn5:=SX.blk_below hkn5 hb31
   replace hkn9:=SX.blk_below hkn9 hb31
   refine hK24 _ _ ?_
   have hb0:0≤blk∧blk<(c.blocks.length:Int):=by simp only [Bool.or_eq_false_iff,decide_eq_false_iff_not] at h17; omega
   obtain ⟨x,hx⟩:=get_of_lt (l:=c.blocks) (k:=blk.toNat) (by omega)
   obtain ⟨bbx,box,hAx,B1x,j1x,B2x,j2x,B3x,j3x,B4x,j4x,hsx,hblx,cb0x,cb1x,cb2x,cb3x,cb4x,cb5x,cb6x,cb7x,cb8x,cb9x⟩:=h0.2.1.elem hx
   subst hAx; unfold Shape at hsx
   have hox:bbx<w.heap.size:=World.block_lt_of_cell? w _ cb0x
   replace hM:=(SX.cells_add (cell_below hB cb0x) (SX.cells_add (cell_below hB cb1x) (SX.cells_add (cell_below hB cb2x) (SX.cells_add (cell_below hB cb3x) (SX.cells_add (cell_below hB cb4x) (SX.cells_add (cell_below hB cb5x) (SX.cells_add (cell_below hB cb6x) (SX.cells_add (cell_below hB cb7x) (SX.cells_add (cell_below hB cb8x) (SX.cells_add (cell_below hB cb9x) hM))))))))))
   refine SX.qf [] [.ld [],.ld [],.ld [13],.ld [],.ld [10],.ix ⟨bbx,box+blk.toNat*10,none⟩,.ld [],.ld [0],.ld [],.ld []] [6] [(.e 6 (.bool (((args.length+1:Nat):Int)==x.params)))] [([],⟨bbx,box,none⟩,c.blocks.length,blk,10,⟨bbx,box+blk.toNat*10,none⟩)] [] [] [] hR hM hB mix ⟨fun hg=>ix_int hb0.1 hb0.2,trivial⟩ trivial (fun w' hb' hM'=>trivial) (fun w' hb' hM'=>trivial) fun a32 w33 hR hb34 hB hM=>?_
   replace hkn5:=SX.blk_below hkn5 hb34
   replace hkn9:=SX.blk_below hkn9 hb34
   refine wp_ret ?_
   try simp only [Exit.then,Exit.inBlock,Nat.reduceEqDiff,↓reduceIte]
   refine SX.ret_ 6 (.bool (((args.length+1:Nat):Int)==x.params)) Try.results157 hR (by kernel_rfl) ?_
   clear hR hM mix hK1 hzn5 hb4 hkn5 hln5 hn5 hzn9 qn5n9 hb8 hkn9 hln9 hn9 hb12 hK13 hb16 hb23 hK24 hb27 hb31 hb34
   refine ⟨ret_bool ?_,hB⟩
   unfold P.rightEdge
   simp only [h17,h28,Bool.false_eq_true,↓reduceIte,params_at hx]
   try rfl
  ·skip
   refine wp_skip ?_
   refine hK24 _ _ ?_
   have hb0:0≤blk∧blk<(c.blocks.length:Int):=by simp only [Bool.or_eq_false_iff,decide_eq_false_iff_not] at h17; omega
   obtain ⟨x,hx⟩:=get_of_lt (l:=c.blocks) (k:=blk.toNat) (by omega)
   obtain ⟨bbx,box,hAx,B1x,j1x,B2x,j2x,B3x,j3x,B4x,j4x,hsx,hblx,cb0x,cb1x,cb2x,cb3x,cb4x,cb5x,cb6x,cb7x,cb8x,cb9x⟩:=h0.2.1.elem hx
   subst hAx; unfold Shape at hsx
   have hox:bbx<w.heap.size:=World.block_lt_of_cell? w _ cb0x
   replace hM:=(SX.cells_add (cell_below hB cb0x) (SX.cells_add (cell_below hB cb1x) (SX.cells_add (cell_below hB cb2x) (SX.cells_add (cell_below hB cb3x) (SX.cells_add (cell_below hB cb4x) (SX.cells_add (cell_below hB cb5x) (SX.cells_add (cell_below hB cb6x) (SX.cells_add (cell_below hB cb7x) (SX.cells_add (cell_below hB cb8x) (SX.cells_add (cell_below hB cb9x) hM))))))))))
   refine SX.qf [] [.ld [],.ld [],.ld [13],.ld [],.ld [10],.ix ⟨bbx,box+blk.toNat*10,none⟩,.ld [],.ld [0],.ld [],.ld []] [6] [(.e 6 (.bool ((args.length:Int)==x.params)))] [([],⟨bbx,box,none⟩,c.blocks.length,blk,10,⟨bbx,box+blk.toNat*10,none⟩)] [] [] [] hR hM hB mix ⟨fun hg=>ix_int hb0.1 hb0.2,trivial⟩ trivial (fun w' hb' hM'=>trivial) (fun w' hb' hM'=>trivial) fun a35 w36 hR hb37 hB hM=>?_
   replace hkn5:=SX.blk_below hkn5 hb37
   replace hkn9:=SX.blk_below hkn9 hb37
   refine wp_ret ?_
   try simp only [Exit.then,Exit.inBlock,Nat.reduceEqDiff,↓reduceIte]
   refine SX.ret_ 6 (.bool ((args.length:Int)==x.params)) Try.results157 hR (by kernel_rfl) ?_
   clear hR hM mix hK1 hzn5 hb4 hkn5 hln5 hn5 hzn9 qn5n9 hb8 hkn9 hln9 hn9 hb12 hK13 hb16 hb23 hK24 hb27 hb37
   refine ⟨ret_bool ?_,hB⟩
   unfold P.rightEdge
   simp only [h17,h28,Bool.false_eq_true,↓reduceIte,params_at hx]
   try rfl

set_option maxHeartbeats 400000 in
theorem rightHead_cons (c:CodeD) (v1 v2 v3:Value) (w:World) (h:CodeAt w v1 v2 v3 c) (hne:0<c.blocks.length):Calls Try.prog 81 #[(.agg #[.I c.params,v1,v2,v3])] w fun e w'=>e=.returned (.bool (P.rightHead c))∧Below w.heap.size w w':=by
 have h0:=h
 obtain ⟨A1,k1,rfl,s1⟩:=h.2.1.shape
 obtain ⟨A2,k2,rfl,s2⟩:=h.2.2.1.shape
 obtain ⟨A3,k3,rfl,s3⟩:=h.2.2.2.shape
 unfold Shape at s1 s2 s3
 have mix:=mixed
 have hB:Below w.heap.size w w:=Below.refl _ _
 have hM:SX.Cells w []:=SX.cells_nil
 refine SX.enter [(.agg #[.I c.params,.slice A1 c.blocks.length k1,.slice A2 c.contexts.length k2,.slice A3 c.objects.length k3])] 22 Try.func81 rfl rfl (by kernel_rfl) ?_
 intro a hR
 refine wp_seq_k fun K1 hK1=>?_
 refine SX.region_l ?_
 obtain ⟨n5,hn5⟩:∃ n,w.heap.size=n:=⟨_,rfl⟩
 have hzn5:w.heap.size≤n5:=by have:=hB.size; omega
 refine SX.list_box 0 n5 [(.I c.params),(.slice A1 c.blocks.length k1),(.slice A2 c.contexts.length k2),(.slice A3 c.objects.length k3)] 26 ((.e 1 (.P n5))::[(.e 0 (.agg #[.I c.params,.slice A1 c.blocks.length k1,.slice A2 c.contexts.length k2,.slice A3 c.objects.length k3]))]) [(⟨n5,0,none⟩,(.I c.params)),(⟨n5,1,none⟩,(.slice A1 c.blocks.length k1)),(⟨n5,2,none⟩,(.slice A2 c.contexts.length k2)),(⟨n5,3,none⟩,(.slice A3 c.objects.length k3))] hR hM hn5 (by kernel_rfl) (by kernel_rfl) ?_
 clear hR hM; intro a2 w3 hR hb4 hM hkn5 hln5
 replace hB:=hB.tr hb4
 replace hR:SX.RSt 22 [] [(.e 1 (.P n5))] a2:=hR.keep (ts:=[1]) (by kernel_rfl)
 refine SX.list_q0 (κ:=[]) 1 1 [.ld []] [1] [(.e 1 (.P n5))] hR hM (by kernel_rfl) (by kernel_rfl) ?_
 clear hR hM; intro a6 w7 hR hb8 hM
 replace hB:=hB.tr hb8
 replace hkn5:=SX.blk_below hkn5 hb8
 refine SX.list_end 2 (by kernel_rfl) ?_
 refine hK1 _ _ ?_
 obtain ⟨x,hx⟩:=get_of_lt (l:=c.blocks) (k:=0) (by omega)
 obtain ⟨bbx,box,hAx,B1x,j1x,B2x,j2x,B3x,j3x,B4x,j4x,hsx,hblx,cb0x,cb1x,cb2x,cb3x,cb4x,cb5x,cb6x,cb7x,cb8x,cb9x⟩:=h0.2.1.elem hx
 subst hAx; unfold Shape at hsx
 have hox:bbx<w.heap.size:=World.block_lt_of_cell? w _ cb0x
 replace hM:=(SX.cells_add (cell_below hB cb0x) (SX.cells_add (cell_below hB cb1x) (SX.cells_add (cell_below hB cb2x) (SX.cells_add (cell_below hB cb3x) (SX.cells_add (cell_below hB cb4x) (SX.cells_add (cell_below hB cb5x) (SX.cells_add (cell_below hB cb6x) (SX.cells_add (cell_below hB cb7x) (SX.cells_add (cell_below hB cb8x) (SX.cells_add (cell_below hB cb9x) hM))))))))))
 refine SX.qf [(3,(P.within c.params 4)),(9,((P.within c.params 4)&&decide (0<(c.blocks.length:Int))))] [.ld [],.ld [10],.cl (.bool (P.within c.params 4)),.ld [],.ld [],.ld [11],.ld [],.ld [],.pk,.ld [],.ld [],.ld [11],.ix ⟨bbx,box+0*10,none⟩,.ld [],.ld [0],.ld [],.ld [10],.ld [],.pk,.ld []] [2] [(.e 2 (.bool (((P.within c.params 4)&&decide (0<(c.blocks.length:Int)))&&(x.params==c.params))))] [([(9,true)],⟨bbx,box,none⟩,c.blocks.length,0,10,⟨bbx,box+0*10,none⟩)] [] [([],84,#[(.I c.params),(.I 4)],(.bool (P.within c.params 4)))] [] hR hM hB mix ⟨fun hg=>SX.ix_ok (k:=0) (by omega),trivial⟩ trivial (fun w' hb' hM'=>trivial) (fun w' hb' hM'=>⟨fun hg=>SX.pureC (within_any _ _ _),trivial⟩) fun a9 w10 hR hb11 hB hM=>?_
 replace hkn5:=SX.blk_below hkn5 hb11
 refine wp_ret ?_
 try simp only [Exit.then,Exit.inBlock,Nat.reduceEqDiff,↓reduceIte]
 refine SX.ret_ 2 (.bool (((P.within c.params 4)&&decide (0<(c.blocks.length:Int)))&&(x.params==c.params))) Try.results81 hR (by kernel_rfl) ?_
 clear hR hM mix hK1 hzn5 hb4 hkn5 hln5 hn5 hb8 hb11
 refine ⟨ret_bool ?_,hB⟩
 unfold P.rightHead
 rw [show R.paramsAt c 0=x.params from params_at (i:=0) hx]
 simp

set_option maxHeartbeats 400000 in
theorem rightHead_nil (c:CodeD) (v1 v2 v3:Value) (w:World) (h:CodeAt w v1 v2 v3 c) (hne:c.blocks.length=0):Calls Try.prog 81 #[(.agg #[.I c.params,v1,v2,v3])] w fun e w'=>e=.returned (.bool (P.rightHead c))∧Below w.heap.size w w':=by
 have h0:=h
 obtain ⟨A1,k1,rfl,s1⟩:=h.2.1.shape
 obtain ⟨A2,k2,rfl,s2⟩:=h.2.2.1.shape
 obtain ⟨A3,k3,rfl,s3⟩:=h.2.2.2.shape
 unfold Shape at s1 s2 s3
 have mix:=mixed
 have hB:Below w.heap.size w w:=Below.refl _ _
 have hM:SX.Cells w []:=SX.cells_nil
 refine SX.enter [(.agg #[.I c.params,.slice A1 c.blocks.length k1,.slice A2 c.contexts.length k2,.slice A3 c.objects.length k3])] 22 Try.func81 rfl rfl (by kernel_rfl) ?_
 intro a hR
 refine wp_seq_k fun K1 hK1=>?_
 refine SX.region_l ?_
 obtain ⟨n5,hn5⟩:∃ n,w.heap.size=n:=⟨_,rfl⟩
 have hzn5:w.heap.size≤n5:=by have:=hB.size; omega
 refine SX.list_box 0 n5 [(.I c.params),(.slice A1 c.blocks.length k1),(.slice A2 c.contexts.length k2),(.slice A3 c.objects.length k3)] 26 ((.e 1 (.P n5))::[(.e 0 (.agg #[.I c.params,.slice A1 c.blocks.length k1,.slice A2 c.contexts.length k2,.slice A3 c.objects.length k3]))]) [(⟨n5,0,none⟩,(.I c.params)),(⟨n5,1,none⟩,(.slice A1 c.blocks.length k1)),(⟨n5,2,none⟩,(.slice A2 c.contexts.length k2)),(⟨n5,3,none⟩,(.slice A3 c.objects.length k3))] hR hM hn5 (by kernel_rfl) (by kernel_rfl) ?_
 clear hR hM; intro a2 w3 hR hb4 hM hkn5 hln5
 replace hB:=hB.tr hb4
 replace hR:SX.RSt 22 [] [(.e 1 (.P n5))] a2:=hR.keep (ts:=[1]) (by kernel_rfl)
 refine SX.list_q0 (κ:=[]) 1 1 [.ld []] [1] [(.e 1 (.P n5))] hR hM (by kernel_rfl) (by kernel_rfl) ?_
 clear hR hM; intro a6 w7 hR hb8 hM
 replace hB:=hB.tr hb8
 replace hkn5:=SX.blk_below hkn5 hb8
 refine SX.list_end 2 (by kernel_rfl) ?_
 refine hK1 _ _ ?_
 refine SX.qf [(3,(P.within c.params 4)),(9,((P.within c.params 4)&&decide (0<(c.blocks.length:Int))))] [.ld [],.ld [0],.cl (.bool (P.within c.params 4)),.ld [],.ld [],.ld [1],.ld [],.ld [],.pk,.ld [],.ld [],.ld [1],.hd (.P 0),.ld [],.hd (.I 0),.ld [],.ld [0],.ld [],.pk,.ld []] [2] [(.e 2 (.bool (((P.within c.params 4)&&decide (0<(c.blocks.length:Int)))&&(0==c.params))))] [] [([(9,true)],ixS 22 (.slice A1 c.blocks.length k1) (.I 0),(.P 0)),([(9,true)],ldS 3 (.P 0),(.I 0))] [([],84,#[(.I c.params),(.I 4)],(.bool (P.within c.params 4)))] [] hR hM hB mix trivial trivial (fun w' hb' hM'=>⟨fun hg=>absurd hg (by simp [SX.pv,SX.kv,hne]),fun hg=>absurd hg (by simp [SX.pv,SX.kv,hne]),trivial⟩) (fun w' hb' hM'=>⟨fun hg=>SX.pureC (within_any _ _ _),trivial⟩) fun a9 w10 hR hb11 hB hM=>?_
 replace hkn5:=SX.blk_below hkn5 hb11
 refine wp_ret ?_
 try simp only [Exit.then,Exit.inBlock,Nat.reduceEqDiff,↓reduceIte]
 refine SX.ret_ 2 (.bool (((P.within c.params 4)&&decide (0<(c.blocks.length:Int)))&&(0==c.params))) Try.results81 hR (by kernel_rfl) ?_
 clear hR hM mix hK1 hzn5 hb4 hkn5 hln5 hn5 hb8 hb11
 refine ⟨ret_bool ?_,hB⟩
 unfold P.rightHead
 simp [hne]

theorem rightHead_any (c:CodeD) (v1 v2 v3:Value) (w:World) (h:CodeAt w v1 v2 v3 c):Calls Try.prog 81 #[(.agg #[.I c.params,v1,v2,v3])] w fun e w'=>e=.returned (.bool (P.rightHead c))∧Below w.heap.size w w':=by
 rcases Nat.eq_zero_or_pos c.blocks.length with hne | hne
 ·exact rightHead_nil c v1 v2 v3 w h hne
 ·exact rightHead_cons c v1 v2 v3 w h hne

set_option maxHeartbeats 400000 in
theorem scAll_any (n:Int) (w:World) (u:Value) (xs:List Int) (hxs:IntsAt w u xs) (ps:Int) (mb:Nat) (D:List (Int × Int)) (hp:0≤ps∧ps≤999) (hD:MapI w mb D):Calls Try.prog 155 #[(.agg #[.I ps,.map (some mb)]),.I n,u] w fun e w'=>e=.returned (.bool (xs.all (fun x=>hasD ps D x n)))∧Below w.heap.size w w':=by
 have hxs0:=hxs
 obtain ⟨Ax,kx,rfl,sx⟩:=hxs.shape
 unfold Shape at sx
 have mix:=mixed
 have hB:Below w.heap.size w w:=Below.refl _ _
 have hM:SX.Cells w []:=SX.cells_nil
 refine SX.enter [(.agg #[.I ps,.map (some mb)]),(.I n),(.slice Ax xs.length kx)] 21 Try.func155 rfl rfl (by kernel_rfl) ?_
 intro a hR
 refine wp_seq_k fun K1 hK1=>?_
 refine SX.region_l ?_
 obtain ⟨n5,hn5⟩:∃ n,w.heap.size=n:=⟨_,rfl⟩
 have hzn5:w.heap.size≤n5:=by have:=hB.size; omega
 refine SX.list_box 0 n5 [(.I ps),(.map (some mb))] 183 ((.e 3 (.P n5))::[(.e 0 (.agg #[.I ps,.map (some mb)])),(.e 1 (.I n)),(.e 2 (.slice Ax xs.length kx))]) [(⟨n5,0,none⟩,(.I ps)),(⟨n5,1,none⟩,(.map (some mb)))] hR hM hn5 (by kernel_rfl) (by kernel_rfl) ?_
 clear hR hM; intro a2 w3 hR hb4 hM hkn5 hln5
 replace hB:=hB.tr hb4
 replace hR:SX.RSt 21 [] [(.e 1 (.I n)),(.e 2 (.slice Ax xs.length kx)),(.e 3 (.P n5))] a2:=hR.keep (ts:=[1,2,3]) (by kernel_rfl)
 refine SX.list_q0 (κ:=[]) 1 1 [.ld []] [1,2,3] [(.e 1 (.I n)),(.e 2 (.slice Ax xs.length kx)),(.e 3 (.P n5))] hR hM (by kernel_rfl) (by kernel_rfl) ?_
 clear hR hM; intro a6 w7 hR hb8 hM
 replace hB:=hB.tr hb8
 replace hkn5:=SX.blk_below hkn5 hb8
 refine SX.list_end 2 (by kernel_rfl) ?_
 refine hK1 _ _ ?_
 refine wp_seq_k fun K9 hK9=>?_
 refine SX.qs [.ld [],.ld [],.ld []] [1,3,9,10,11] [(.e 9 (.slice Ax xs.length kx)),(.e 10 (.I (xs.length:Int))),(.e 11 (.I 0))] hR hM hB mix fun a10 w11 hR hb12 hB hM=>?_
 replace hkn5:=SX.blk_below hkn5 hb12
 refine wp_block ?_
 refine wp_loop_ghost (fun m15 a' w'=>∃ k:Nat,m15=xs.length-k∧k≤xs.length∧SX.RSt 21 [] [(.e 1 (.I n)),(.e 3 (.P n5)),(.e 9 (.slice Ax xs.length kx)),(.e 10 (.I (xs.length:Int))),(.e 11 (.I (k:Int)))] a'∧Below w.heap.size w w'∧SX.Cells w' [(⟨n5,0,none⟩,(.I ps)),(⟨n5,1,none⟩,(.map (some mb)))]∧Upto xs (fun _ x=>hasD ps D x n) k) (xs.length-0) ⟨0,rfl,Nat.zero_le _,hR.keep (ts:=[1,3,9,10,11]) (by kernel_rfl),hB,hM,Upto.zero⟩ ?_
 clear hR hM hB
 rintro m15 a13 w14 ⟨k,hm15,hlek,hR,hB,hM,hIk⟩
 refine SX.qs [.ld []] [1,3,9,10,11,12] [(.e 12 (.bool (decide ((k:Int)<(xs.length:Int)))))] hR hM hB mix fun a16 w17 hR hb18 hB hM=>?_
 refine wp_seq_k fun K19 hK19=>?_
 refine SX.cond_ (decide ((k:Int)<(xs.length:Int))) hR (by kernel_rfl) (fun h20=>?_) (fun h20=>?_)
 ·skip
  refine wp_skip ?_
  refine hK19 _ _ ?_
  refine wp_seq_k fun K21 hK21=>?_
  refine wp_block ?_
  have hlt:k<xs.length:=lt_of_dec h20
  obtain ⟨x,hx⟩:=get_of_lt hlt
  obtain ⟨ibx,iox,hAx,hix,cix⟩:=hxs0.elem hx
  subst hAx
  have hox:ibx<w.heap.size:=World.block_lt_of_cell? w _ cix
  replace hM:=(SX.cells_add (cell_below hB cix) hM)
  refine SX.qf [] [.ix ⟨ibx,iox+k*1,none⟩,.ld [0],.ld []] [1,3,8,9,10,11] [(.e 8 (.I x))] [([],⟨ibx,iox,none⟩,xs.length,(k:Int),1,⟨ibx,iox+k*1,none⟩)] [] [] [] hR hM hB mix ⟨fun hg=>SX.ix_ok (by omega),trivial⟩ trivial (fun w' hb' hM'=>trivial) (fun w' hb' hM'=>trivial) fun a22 w23 hR hb24 hB hM=>?_
  refine SX.qf [] [.ld [1,2],.ld [],.ld [],.cl (.bool (hasD ps D x n)),.ld []] [1,3,9,10,11,19] [(.e 19 (.bool (!(hasD ps D x n))))] [] [] [([],154,#[(.agg #[.I ps,.map (some mb)]),(.I x),(.I n)],(.bool (hasD ps D x n)))] [] hR hM hB mix trivial trivial (fun w' hb' hM'=>trivial) (fun w' hb' hM'=>⟨fun hg=>sc_has _ _ _ _ _ _ hp (hD.below (hB.tr hb')),trivial⟩) fun a25 w26 hR hb27 hB hM=>?_
  refine SX.cond_ (!(hasD ps D x n)) hR (by kernel_rfl) (fun h28=>?_) (fun h28=>?_)
  ·skip
   refine SX.qs [.ld []] [1,3,6,9,10,11] [(.e 6 (.bool false))] hR hM hB mix fun a29 w30 hR hb31 hB hM=>?_
   refine wp_ret ?_
   try simp only [Exit.then,Exit.inBlock,Nat.reduceEqDiff,↓reduceIte]
   refine SX.ret_ 6 (.bool false) Try.results155 hR (by kernel_rfl) ?_
   clear hR hM mix hK1 hzn5 hb4 hkn5 hln5 hn5 hb8 hK9 hb12 hm15 hb18 hK19 hK21 hb24 hb27 hb31
   refine ⟨ret_bool ?_,hB⟩
   exact all_no hx (by simpa using h28)
  ·skip
   refine wp_skip ?_
   refine hK21 _ _ ?_
   refine SX.qf0 [] [.nm (.I ((k+1:Nat):Int)),.ld []] [1,3,9,10,11] [(.e 11 (.I ((k+1:Nat):Int)))] [] [] [] [([],(.I (IntKind.i64.wrap ((k:Int)+1))),(.I ((k+1:Nat):Int)))] hR hM hB mix trivial ⟨fun hg=>SX.wrap_ok (by omega),trivial⟩ (fun w' hb' hM'=>trivial) (fun w' hb' hM'=>trivial) fun a32 w33 hR hb34 hB hM=>?_
   exact ⟨xs.length-(k+1),by omega,k+1,rfl,by omega,hR.keep (ts:=[1,3,9,10,11]) (by kernel_rfl),hB,SX.cells_sub hM [1,2] (by kernel_rfl),hIk.step hx (by simpa using h28)⟩
 ·skip
  refine wp_exit ?_
  refine hK9 _ _ ?_
  refine SX.qs [.ld []] [1,3,6,9,10,11] [(.e 6 (.bool true))] hR hM hB mix fun a35 w36 hR hb37 hB hM=>?_
  refine wp_ret ?_
  try simp only [Exit.then,Exit.inBlock,Nat.reduceEqDiff,↓reduceIte]
  refine SX.ret_ 6 (.bool true) Try.results155 hR (by kernel_rfl) ?_
  clear hR hM mix hK1 hzn5 hb4 hkn5 hln5 hn5 hb8 hK9 hb12 hm15 hb18 hK19 hb37
  refine ⟨ret_bool ?_,hB⟩
  exact hIk.all (le_of_dec h20)
end Go.Proofs.Ytlkcidmmpeebeaa
