/- Proved: edge,Ops -/
import Derived.Test.YtlkcidmmpeebeaaEdge1
set_option linter.unusedVariables false
set_option linter.unusedSimpArgs false
namespace Go.Proofs.Ytlkcidmmpeebeaa
open Go.RowKit
set_option maxRecDepth 100000
set_option maxHeartbeats 400000 in
theorem edge_in (c:CodeD) (v1 v2 v3:Value) (w:World) (h:CodeAt w v1 v2 v3 c) (blk more:Int) (u ua:Value) (args all:List Int) (hu:IntsAt w u args) (hal:IntsAt w ua all) (hmo:0≤more∧more≤1) (hb0:0≤blk∧blk<(c.blocks.length:Int)):Calls Try.prog 92 #[(.agg #[.I c.params,v1,v2,v3]),.agg #[.I blk,u],ua,.I more] w fun e w'=>e=.returned (.bool (R.edge c blk args all more))∧Below w.heap.size w w':=by
 have h0:=h
 obtain ⟨A1,k1,rfl,s1⟩:=h.2.1.shape
 obtain ⟨A2,k2,rfl,s2⟩:=h.2.2.1.shape
 obtain ⟨A3,k3,rfl,s3⟩:=h.2.2.2.shape
 unfold Shape at s1 s2 s3
 have hu0:=hu
 have hal0:=hal
 obtain ⟨Au,ku,rfl,su⟩:=hu.shape
 unfold Shape at su
 obtain ⟨Al,ka,rfl,sa⟩:=hal.shape
 have mix:=mixed
 have hB:Below w.heap.size w w:=Below.refl _ _
 have hM:SX.Cells w []:=SX.cells_nil
 refine SX.enter [(.agg #[.I c.params,.slice A1 c.blocks.length k1,.slice A2 c.contexts.length k2,.slice A3 c.objects.length k3]),(.agg #[.I blk,.slice Au args.length ku]),(.slice Al all.length ka),(.I more)] 49 Try.func92 rfl rfl (by kernel_rfl) ?_
 intro a hR
 refine wp_seq_k fun K1 hK1=>?_
 refine SX.region_l ?_
 obtain ⟨n5,hn5⟩:∃ n,w.heap.size=n:=⟨_,rfl⟩
 have hzn5:w.heap.size≤n5:=by have:=hB.size; omega
 refine SX.list_box 0 n5 [(.I c.params),(.slice A1 c.blocks.length k1),(.slice A2 c.contexts.length k2),(.slice A3 c.objects.length k3)] 26 ((.e 4 (.P n5))::[(.e 0 (.agg #[.I c.params,.slice A1 c.blocks.length k1,.slice A2 c.contexts.length k2,.slice A3 c.objects.length k3])),(.e 1 (.agg #[.I blk,.slice Au args.length ku])),(.e 2 (.slice Al all.length ka)),(.e 3 (.I more))]) [(⟨n5,0,none⟩,(.I c.params)),(⟨n5,1,none⟩,(.slice A1 c.blocks.length k1)),(⟨n5,2,none⟩,(.slice A2 c.contexts.length k2)),(⟨n5,3,none⟩,(.slice A3 c.objects.length k3))] hR hM hn5 (by kernel_rfl) (by kernel_rfl) ?_
 clear hR hM; intro a2 w3 hR hb4 hM hkn5 hln5
 replace hB:=hB.tr hb4
 replace hR:SX.RSt 49 [] [(.e 1 (.agg #[.I blk,.slice Au args.length ku])),(.e 2 (.slice Al all.length ka)),(.e 3 (.I more)),(.e 4 (.P n5))] a2:=hR.keep (ts:=[1,2,3,4]) (by kernel_rfl)
 obtain ⟨n9,hn9⟩:∃ n,w3.heap.size=n:=⟨_,rfl⟩
 have hzn9:w.heap.size≤n9:=by have:=hB.size; omega
 have qn5n9:n5<n9:=by have:=(Array.getElem?_eq_some_iff.1 hkn5).1; omega
 refine SX.list_box 1 n9 [(.I blk),(.slice Au args.length ku)] 57 ((.e 5 (.P n9))::[(.e 1 (.agg #[.I blk,.slice Au args.length ku])),(.e 2 (.slice Al all.length ka)),(.e 3 (.I more)),(.e 4 (.P n5))]) [(⟨n9,0,none⟩,(.I blk)),(⟨n9,1,none⟩,(.slice Au args.length ku)),(⟨n5,0,none⟩,(.I c.params)),(⟨n5,1,none⟩,(.slice A1 c.blocks.length k1)),(⟨n5,2,none⟩,(.slice A2 c.contexts.length k2)),(⟨n5,3,none⟩,(.slice A3 c.objects.length k3))] hR hM hn9 (by kernel_rfl) (by kernel_rfl) ?_
 clear hR hM; intro a6 w7 hR hb8 hM hkn9 hln9
 replace hB:=hB.tr hb8
 replace hkn5:=SX.blk_below hkn5 hb8
 replace hR:SX.RSt 49 [] [(.e 2 (.slice Al all.length ka)),(.e 3 (.I more)),(.e 4 (.P n5)),(.e 5 (.P n9))] a6:=hR.keep (ts:=[2,3,4,5]) (by kernel_rfl)
 refine SX.list_q0 (κ:=[]) 2 1 [.ld []] [2,3,4,5] [(.e 2 (.slice Al all.length ka)),(.e 3 (.I more)),(.e 4 (.P n5)),(.e 5 (.P n9))] hR hM (by kernel_rfl) (by kernel_rfl) ?_
 clear hR hM; intro a10 w11 hR hb12 hM
 replace hB:=hB.tr hb12
 replace hkn5:=SX.blk_below hkn5 hb12
 replace hkn9:=SX.blk_below hkn9 hb12
 refine SX.list_end 3 (by kernel_rfl) ?_
 refine hK1 _ _ ?_
 refine wp_seq_k fun K13 hK13=>?_
 obtain ⟨x,hx⟩:=get_of_lt (l:=c.blocks) (k:=blk.toNat) (by omega)
 obtain ⟨bbx,box,hAx,B1x,j1x,B2x,j2x,B3x,j3x,B4x,j4x,hsx,hblx,cb0x,cb1x,cb2x,cb3x,cb4x,cb5x,cb6x,cb7x,cb8x,cb9x⟩:=h0.2.1.elem hx
 subst hAx; unfold Shape at hsx
 have hox:bbx<w.heap.size:=World.block_lt_of_cell? w _ cb0x
 replace hM:=(SX.cells_add (cell_below hB cb0x) (SX.cells_add (cell_below hB cb1x) (SX.cells_add (cell_below hB cb2x) (SX.cells_add (cell_below hB cb3x) (SX.cells_add (cell_below hB cb4x) (SX.cells_add (cell_below hB cb5x) (SX.cells_add (cell_below hB cb6x) (SX.cells_add (cell_below hB cb7x) (SX.cells_add (cell_below hB cb8x) (SX.cells_add (cell_below hB cb9x) hM))))))))))
 refine SX.qf [(3,decide (blk<1)),(11,(decide (blk<1)||decide ((c.blocks.length:Int)≤blk)))] [.ld [],.ld [10],.ld [],.ld [],.ld [],.ld [10],.ld [],.ld [13],.ld [],.ld [],.pk,.ld [],.ld [],.ld [11],.ld [],.ld [],.nm (.I ((args.length:Int)+more)),.ld [],.ld [13],.ld [],.ld [10],.ix ⟨bbx,box+blk.toNat*10,none⟩,.ld [],.ld [0],.ld [],.pk] [2,5,36] [(.e 36 (.bool ((decide (blk<1)||decide ((c.blocks.length:Int)≤blk))||((args.length:Int)+more != x.params))))] [([(11,false)],⟨bbx,box,none⟩,c.blocks.length,blk,10,⟨bbx,box+blk.toNat*10,none⟩)] [] [] [([(11,false)],(.I (IntKind.i64.wrap ((args.length:Int)+more))),(.I ((args.length:Int)+more)))] hR hM hB mix ⟨fun hg=>ix_int hb0.1 hb0.2,trivial⟩ ⟨fun hg=>SX.wrap_ok (by omega),trivial⟩ (fun w' hb' hM'=>trivial) (fun w' hb' hM'=>trivial) fun a14 w15 hR hb16 hB hM=>?_
 replace hkn5:=SX.blk_below hkn5 hb16
 replace hkn9:=SX.blk_below hkn9 hb16
 refine SX.cond_ ((decide (blk<1)||decide ((c.blocks.length:Int)≤blk))||((args.length:Int)+more != x.params)) hR (by kernel_rfl) (fun h17=>?_) (fun h17=>?_)
 ·skip
  refine SX.qs [.ld []] [8] [(.e 8 (.bool false))] hR hM hB mix fun a18 w19 hR hb20 hB hM=>?_
  replace hkn5:=SX.blk_below hkn5 hb20
  replace hkn9:=SX.blk_below hkn9 hb20
  refine wp_ret ?_
  try simp only [Exit.then,Exit.inBlock,Nat.reduceEqDiff,↓reduceIte]
  refine SX.ret_ 8 (.bool false) Try.results92 hR (by kernel_rfl) ?_
  clear hR hM mix hK1 hzn5 hb4 hkn5 hln5 hn5 hzn9 qn5n9 hb8 hkn9 hln9 hn9 hb12 hK13 hb16 hb20
  refine ⟨ret_bool ?_,hB⟩
  unfold R.edge
  rw [params_at hx]
  simp only [h17,Bool.false_eq_true,↓reduceIte]
 ·skip
  refine wp_skip ?_
  refine hK13 _ _ ?_
  refine wp_seq_k fun K21 hK21=>?_
  refine SX.qs [.ld [],.ld [11],.ld [],.ld []] [2,38,39,40] [(.e 38 (.slice Au args.length ku)),(.e 39 (.I (args.length:Int))),(.e 40 (.I 0))] hR hM hB mix fun a22 w23 hR hb24 hB hM=>?_
  replace hkn5:=SX.blk_below hkn5 hb24
  replace hkn9:=SX.blk_below hkn9 hb24
  refine wp_block ?_
  refine wp_loop_ghost (fun m27 a' w'=>∃ k:Nat,m27=args.length-k∧k≤args.length∧SX.RSt 49 [] [(.e 2 (.slice Al all.length ka)),(.e 38 (.slice Au args.length ku)),(.e 39 (.I (args.length:Int))),(.e 40 (.I (k:Int)))] a'∧Below w.heap.size w w'∧SX.Cells w' [(⟨bbx,box+blk.toNat*10,none⟩,(.I x.params)),(⟨bbx,box+blk.toNat*10+1,none⟩,(.slice B1x x.ops.length j1x)),(⟨bbx,box+blk.toNat*10+2,none⟩,(.I x.term.kind)),(⟨bbx,box+blk.toNat*10+3,none⟩,(.I x.term.a)),(⟨bbx,box+blk.toNat*10+4,none⟩,(.I x.term.n)),(⟨bbx,box+blk.toNat*10+5,none⟩,(.slice B2x x.term.args.length j2x)),(⟨bbx,box+blk.toNat*10+6,none⟩,(.I x.term.b0)),(⟨bbx,box+blk.toNat*10+7,none⟩,(.slice B3x x.term.args0.length j3x)),(⟨bbx,box+blk.toNat*10+8,none⟩,(.I x.term.b1)),(⟨bbx,box+blk.toNat*10+9,none⟩,(.slice B4x x.term.args1.length j4x)),(⟨n9,0,none⟩,(.I blk)),(⟨n9,1,none⟩,(.slice Au args.length ku)),(⟨n5,0,none⟩,(.I c.params)),(⟨n5,1,none⟩,(.slice (some ⟨bbx,box,none⟩) c.blocks.length k1)),(⟨n5,2,none⟩,(.slice A2 c.contexts.length k2)),(⟨n5,3,none⟩,(.slice A3 c.objects.length k3))]∧Upto args (fun _ x=>R.has all x) k) (args.length-0) ⟨0,rfl,Nat.zero_le _,hR.keep (ts:=[2,38,39,40]) (by kernel_rfl),hB,hM,Upto.zero⟩ ?_
  clear hR hM hB
  rintro m27 a25 w26 ⟨k,hm27,hlek,hR,hB,hM,hIk⟩
  refine SX.qs [.ld []] [2,38,39,40,41] [(.e 41 (.bool (decide ((k:Int)<(args.length:Int)))))] hR hM hB mix fun a28 w29 hR hb30 hB hM=>?_
  refine wp_seq_k fun K31 hK31=>?_
  refine SX.cond_ (decide ((k:Int)<(args.length:Int))) hR (by kernel_rfl) (fun h32=>?_) (fun h32=>?_)
  ·skip
   refine wp_skip ?_
   refine hK31 _ _ ?_
   refine wp_seq_k fun K33 hK33=>?_
   refine wp_block ?_
   have hlt:k<args.length:=lt_of_dec h32
   obtain ⟨y,hy⟩:=get_of_lt hlt
   obtain ⟨iby,ioy,hAy,hiy,ciy⟩:=hu0.elem hy
   subst hAy
   have hoy:iby<w.heap.size:=World.block_lt_of_cell? w _ ciy
   replace hM:=(SX.cells_add (cell_below hB ciy) hM)
   refine SX.qf [] [.ix ⟨iby,ioy+k*1,none⟩,.ld [0],.ld []] [2,10,38,39,40] [(.e 10 (.I y))] [([],⟨iby,ioy,none⟩,args.length,(k:Int),1,⟨iby,ioy+k*1,none⟩)] [] [] [] hR hM hB mix ⟨fun hg=>SX.ix_ok (by omega),trivial⟩ trivial (fun w' hb' hM'=>trivial) (fun w' hb' hM'=>trivial) fun a34 w35 hR hb36 hB hM=>?_
   refine SX.qf [] [.ld [],.ld [],.cl (.bool (R.has all y)),.ld []] [2,38,39,40,47] [(.e 47 (.bool (!(R.has all y))))] [] [] [([],71,#[(.slice Al all.length ka),(.I y)],(.bool (R.has all y)))] [] hR hM hB mix trivial trivial (fun w' hb' hM'=>trivial) (fun w' hb' hM'=>⟨fun hg=>SX.pureC (has_any _ all _ _ (hal0.below (hB.tr hb'))),trivial⟩) fun a37 w38 hR hb39 hB hM=>?_
   refine SX.cond_ (!(R.has all y)) hR (by kernel_rfl) (fun h40=>?_) (fun h40=>?_)
   ·skip
    refine SX.qs [.ld []] [2,8,38,39,40] [(.e 8 (.bool false))] hR hM hB mix fun a41 w42 hR hb43 hB hM=>?_
    refine wp_ret ?_
    try simp only [Exit.then,Exit.inBlock,Nat.reduceEqDiff,↓reduceIte]
    refine SX.ret_ 8 (.bool false) Try.results92 hR (by kernel_rfl) ?_
    clear hR hM mix hK1 hzn5 hb4 hkn5 hln5 hn5 hzn9 qn5n9 hb8 hkn9 hln9 hn9 hb12 hK13 hb16 hK21 hb24 hm27 hb30 hK31 hK33 hb36 hb39 hb43
    refine ⟨ret_bool ?_,hB⟩
    unfold R.edge
    rw [params_at hx]
    simp only [h17,Bool.false_eq_true,↓reduceIte]
    exact all_no hy (by simpa using h40)
   ·skip
    refine wp_skip ?_
    refine hK33 _ _ ?_
    refine SX.qf0 [] [.nm (.I ((k+1:Nat):Int)),.ld []] [2,38,39,40] [(.e 40 (.I ((k+1:Nat):Int)))] [] [] [] [([],(.I (IntKind.i64.wrap ((k:Int)+1))),(.I ((k+1:Nat):Int)))] hR hM hB mix trivial ⟨fun hg=>SX.wrap_ok (by omega),trivial⟩ (fun w' hb' hM'=>trivial) (fun w' hb' hM'=>trivial) fun a44 w45 hR hb46 hB hM=>?_
    exact ⟨args.length-(k+1),by omega,k+1,rfl,by omega,hR.keep (ts:=[2,38,39,40]) (by kernel_rfl),hB,SX.cells_sub hM [1,2,3,4,5,6,7,8,9,10,11,12,13,14,15,16] (by kernel_rfl),hIk.step hy (by simpa using h40)⟩
  ·skip
   refine wp_exit ?_
   refine hK21 _ _ ?_
   refine SX.qs [.ld []] [2,8,38,39,40] [(.e 8 (.bool true))] hR hM hB mix fun a47 w48 hR hb49 hB hM=>?_
   refine wp_ret ?_
   try simp only [Exit.then,Exit.inBlock,Nat.reduceEqDiff,↓reduceIte]
   refine SX.ret_ 8 (.bool true) Try.results92 hR (by kernel_rfl) ?_
   clear hR hM mix hK1 hzn5 hb4 hkn5 hln5 hn5 hzn9 qn5n9 hb8 hkn9 hln9 hn9 hb12 hK13 hb16 hK21 hb24 hm27 hb30 hK31 hb49
   refine ⟨ret_bool ?_,hB⟩
   unfold R.edge
   rw [params_at hx]
   simp only [h17,Bool.false_eq_true,↓reduceIte]
   exact hIk.all (le_of_dec h32)

set_option maxHeartbeats 400000 in
theorem edge_out (c:CodeD) (v1 v2 v3:Value) (w:World) (h:CodeAt w v1 v2 v3 c) (blk more:Int) (u ua:Value) (args all:List Int) (hu:IntsAt w u args) (hal:IntsAt w ua all) (hmo:0≤more∧more≤1) (hout:(decide (blk<1)||decide ((c.blocks.length:Int)≤blk))=true):Calls Try.prog 92 #[(.agg #[.I c.params,v1,v2,v3]),.agg #[.I blk,u],ua,.I more] w fun e w'=>e=.returned (.bool (R.edge c blk args all more))∧Below w.heap.size w w':=by
 have h0:=h
 obtain ⟨A1,k1,rfl,s1⟩:=h.2.1.shape
 obtain ⟨A2,k2,rfl,s2⟩:=h.2.2.1.shape
 obtain ⟨A3,k3,rfl,s3⟩:=h.2.2.2.shape
 unfold Shape at s1 s2 s3
 have hu0:=hu
 have hal0:=hal
 obtain ⟨Au,ku,rfl,su⟩:=hu.shape
 unfold Shape at su
 obtain ⟨Al,ka,rfl,sa⟩:=hal.shape
 have mix:=mixed
 have hB:Below w.heap.size w w:=Below.refl _ _
 have hM:SX.Cells w []:=SX.cells_nil
 refine SX.enter [(.agg #[.I c.params,.slice A1 c.blocks.length k1,.slice A2 c.contexts.length k2,.slice A3 c.objects.length k3]),(.agg #[.I blk,.slice Au args.length ku]),(.slice Al all.length ka),(.I more)] 49 Try.func92 rfl rfl (by kernel_rfl) ?_
 intro a hR
 refine wp_seq_k fun K1 hK1=>?_
 refine SX.region_l ?_
 obtain ⟨n5,hn5⟩:∃ n,w.heap.size=n:=⟨_,rfl⟩
 have hzn5:w.heap.size≤n5:=by have:=hB.size; omega
 refine SX.list_box 0 n5 [(.I c.params),(.slice A1 c.blocks.length k1),(.slice A2 c.contexts.length k2),(.slice A3 c.objects.length k3)] 26 ((.e 4 (.P n5))::[(.e 0 (.agg #[.I c.params,.slice A1 c.blocks.length k1,.slice A2 c.contexts.length k2,.slice A3 c.objects.length k3])),(.e 1 (.agg #[.I blk,.slice Au args.length ku])),(.e 2 (.slice Al all.length ka)),(.e 3 (.I more))]) [(⟨n5,0,none⟩,(.I c.params)),(⟨n5,1,none⟩,(.slice A1 c.blocks.length k1)),(⟨n5,2,none⟩,(.slice A2 c.contexts.length k2)),(⟨n5,3,none⟩,(.slice A3 c.objects.length k3))] hR hM hn5 (by kernel_rfl) (by kernel_rfl) ?_
 clear hR hM; intro a2 w3 hR hb4 hM hkn5 hln5
 replace hB:=hB.tr hb4
 replace hR:SX.RSt 49 [] [(.e 1 (.agg #[.I blk,.slice Au args.length ku])),(.e 2 (.slice Al all.length ka)),(.e 3 (.I more)),(.e 4 (.P n5))] a2:=hR.keep (ts:=[1,2,3,4]) (by kernel_rfl)
 obtain ⟨n9,hn9⟩:∃ n,w3.heap.size=n:=⟨_,rfl⟩
 have hzn9:w.heap.size≤n9:=by have:=hB.size; omega
 have qn5n9:n5<n9:=by have:=(Array.getElem?_eq_some_iff.1 hkn5).1; omega
 refine SX.list_box 1 n9 [(.I blk),(.slice Au args.length ku)] 57 ((.e 5 (.P n9))::[(.e 1 (.agg #[.I blk,.slice Au args.length ku])),(.e 2 (.slice Al all.length ka)),(.e 3 (.I more)),(.e 4 (.P n5))]) [(⟨n9,0,none⟩,(.I blk)),(⟨n9,1,none⟩,(.slice Au args.length ku)),(⟨n5,0,none⟩,(.I c.params)),(⟨n5,1,none⟩,(.slice A1 c.blocks.length k1)),(⟨n5,2,none⟩,(.slice A2 c.contexts.length k2)),(⟨n5,3,none⟩,(.slice A3 c.objects.length k3))] hR hM hn9 (by kernel_rfl) (by kernel_rfl) ?_
 clear hR hM; intro a6 w7 hR hb8 hM hkn9 hln9
 replace hB:=hB.tr hb8
 replace hkn5:=SX.blk_below hkn5 hb8
 replace hR:SX.RSt 49 [] [(.e 2 (.slice Al all.length ka)),(.e 3 (.I more)),(.e 4 (.P n5)),(.e 5 (.P n9))] a6:=hR.keep (ts:=[2,3,4,5]) (by kernel_rfl)
 refine SX.list_q0 (κ:=[]) 2 1 [.ld []] [2,3,4,5] [(.e 2 (.slice Al all.length ka)),(.e 3 (.I more)),(.e 4 (.P n5)),(.e 5 (.P n9))] hR hM (by kernel_rfl) (by kernel_rfl) ?_
 clear hR hM; intro a10 w11 hR hb12 hM
 replace hB:=hB.tr hb12
 replace hkn5:=SX.blk_below hkn5 hb12
 replace hkn9:=SX.blk_below hkn9 hb12
 refine SX.list_end 3 (by kernel_rfl) ?_
 refine hK1 _ _ ?_
 refine wp_seq_k fun K13 hK13=>?_
 refine SX.qf [(3,decide (blk<1)),(11,(decide (blk<1)||decide ((c.blocks.length:Int)≤blk)))] [.ld [],.ld [0],.ld [],.ld [],.ld [],.ld [0],.ld [],.ld [3],.ld [],.ld [],.pk,.ld [],.ld [],.ld [1],.ld [],.ld [],.nm (.I ((args.length:Int)+more)),.ld [],.ld [3],.ld [],.ld [0],.hd (.P 0),.ld [],.hd (.I 0),.ld [],.pk] [2,5,36] [(.e 36 (.bool ((decide (blk<1)||decide ((c.blocks.length:Int)≤blk))||((args.length:Int)+more != 0))))] [] [([(11,false)],ixS 22 (.slice A1 c.blocks.length k1) (.I blk),(.P 0)),([(11,false)],ldS 3 (.P 0),(.I 0))] [] [([(11,false)],(.I (IntKind.i64.wrap ((args.length:Int)+more))),(.I ((args.length:Int)+more)))] hR hM hB mix trivial ⟨fun hg=>SX.wrap_ok (by omega),trivial⟩ (fun w' hb' hM'=>⟨fun hg=>absurd hg (by simp [SX.pv,SX.kv,hout]),fun hg=>absurd hg (by simp [SX.pv,SX.kv,hout]),trivial⟩) (fun w' hb' hM'=>trivial) fun a14 w15 hR hb16 hB hM=>?_
 replace hkn5:=SX.blk_below hkn5 hb16
 replace hkn9:=SX.blk_below hkn9 hb16
 refine SX.cond_ ((decide (blk<1)||decide ((c.blocks.length:Int)≤blk))||((args.length:Int)+more != 0)) hR (by kernel_rfl) (fun h17=>?_) (fun h17=>?_)
 ·skip
  refine SX.qs [.ld []] [8] [(.e 8 (.bool false))] hR hM hB mix fun a18 w19 hR hb20 hB hM=>?_
  replace hkn5:=SX.blk_below hkn5 hb20
  replace hkn9:=SX.blk_below hkn9 hb20
  refine wp_ret ?_
  try simp only [Exit.then,Exit.inBlock,Nat.reduceEqDiff,↓reduceIte]
  refine SX.ret_ 8 (.bool false) Try.results92 hR (by kernel_rfl) ?_
  clear hR hM mix hK1 hzn5 hb4 hkn5 hln5 hn5 hzn9 qn5n9 hb8 hkn9 hln9 hn9 hb12 hK13 hb16 hb20
  refine ⟨ret_bool ?_,hB⟩
  unfold R.edge
  simp only [hout,Bool.true_or,↓reduceIte]
 ·skip
  exact absurd h17 (by simp [hout])

theorem edge_any (c:CodeD) (v1 v2 v3:Value) (w:World) (h:CodeAt w v1 v2 v3 c) (blk more:Int) (u ua:Value) (args all:List Int) (hu:IntsAt w u args) (hal:IntsAt w ua all) (hmo:0≤more∧more≤1):Calls Try.prog 92 #[(.agg #[.I c.params,v1,v2,v3]),.agg #[.I blk,u],ua,.I more] w fun e w'=>e=.returned (.bool (R.edge c blk args all more))∧Below w.heap.size w w':=by
 cases hout:(decide (blk<1)||decide ((c.blocks.length:Int)≤blk)) with
 | true=>exact edge_out c v1 v2 v3 w h blk more u ua args all hu hal hmo hout
 | false=>exact edge_in c v1 v2 v3 w h blk more u ua args all hu hal hmo (by simp at hout; omega)

set_option maxHeartbeats 400000 in
theorem ops_any (c:CodeD) (v1 v2 v3:Value) (w:World) (h:CodeAt w v1 v2 v3 c):Calls Try.prog 45 #[(.agg #[.I c.params,v1,v2,v3])] w fun e w'=>e=.returned (.I (totW c.blocks))∧Below w.heap.size w w':=by
 have h0:=h
 obtain ⟨A1,k1,rfl,s1⟩:=h.2.1.shape
 obtain ⟨A2,k2,rfl,s2⟩:=h.2.2.1.shape
 obtain ⟨A3,k3,rfl,s3⟩:=h.2.2.2.shape
 unfold Shape at s1 s2 s3
 have mix:=mixed
 have hB:Below w.heap.size w w:=Below.refl _ _
 have hM:SX.Cells w []:=SX.cells_nil
 refine SX.enter [(.agg #[.I c.params,.slice A1 c.blocks.length k1,.slice A2 c.contexts.length k2,.slice A3 c.objects.length k3])] 20 Try.func45 rfl rfl (by kernel_rfl) ?_
 intro a hR
 refine wp_seq_k fun K1 hK1=>?_
 refine SX.region_l ?_
 obtain ⟨n5,hn5⟩:∃ n,w.heap.size=n:=⟨_,rfl⟩
 have hzn5:w.heap.size≤n5:=by have:=hB.size; omega
 refine SX.list_box 0 n5 [(.I c.params),(.slice A1 c.blocks.length k1),(.slice A2 c.contexts.length k2),(.slice A3 c.objects.length k3)] 26 ((.e 1 (.P n5))::[(.e 0 (.agg #[.I c.params,.slice A1 c.blocks.length k1,.slice A2 c.contexts.length k2,.slice A3 c.objects.length k3]))]) [(⟨n5,0,none⟩,(.I c.params)),(⟨n5,1,none⟩,(.slice A1 c.blocks.length k1)),(⟨n5,2,none⟩,(.slice A2 c.contexts.length k2)),(⟨n5,3,none⟩,(.slice A3 c.objects.length k3))] hR hM hn5 (by kernel_rfl) (by kernel_rfl) ?_
 clear hR hM; intro a2 w3 hR hb4 hM hkn5 hln5
 replace hB:=hB.tr hb4
 replace hR:SX.RSt 20 [] [(.e 1 (.P n5))] a2:=hR.keep (ts:=[1]) (by kernel_rfl)
 refine SX.list_q0 (κ:=[]) 1 1 [.ld []] [1] [(.e 1 (.P n5))] hR hM (by kernel_rfl) (by kernel_rfl) ?_
 clear hR hM; intro a6 w7 hR hb8 hM
 replace hB:=hB.tr hb8
 replace hkn5:=SX.blk_below hkn5 hb8
 refine SX.list_end 2 (by kernel_rfl) ?_
 refine hK1 _ _ ?_
 refine SX.qs [.ld []] [1,3] [(.e 3 (.I 0))] hR hM hB mix fun a9 w10 hR hb11 hB hM=>?_
 replace hkn5:=SX.blk_below hkn5 hb11
 refine wp_seq_k fun K12 hK12=>?_
 refine SX.qs [.ld [],.ld [1],.ld [],.ld []] [3,7,8,9] [(.e 7 (.slice A1 c.blocks.length k1)),(.e 8 (.I (c.blocks.length:Int))),(.e 9 (.I 0))] hR hM hB mix fun a13 w14 hR hb15 hB hM=>?_
 replace hkn5:=SX.blk_below hkn5 hb15
 refine wp_block ?_
 refine wp_loop_ghost (fun m18 a' w'=>∃ k:Nat,m18=c.blocks.length-k∧k≤c.blocks.length∧SX.RSt 20 [] [(.e 3 (.I (totW (c.blocks.take (k))))),(.e 7 (.slice A1 c.blocks.length k1)),(.e 8 (.I (c.blocks.length:Int))),(.e 9 (.I (k:Int)))] a'∧Below w.heap.size w w'∧SX.Cells w' [(⟨n5,0,none⟩,(.I c.params)),(⟨n5,1,none⟩,(.slice A1 c.blocks.length k1)),(⟨n5,2,none⟩,(.slice A2 c.contexts.length k2)),(⟨n5,3,none⟩,(.slice A3 c.objects.length k3))]∧True) (c.blocks.length-0) ⟨0,rfl,Nat.zero_le _,hR.keep (ts:=[3,7,8,9]) (by kernel_rfl),hB,hM,trivial⟩ ?_
 clear hR hM hB
 rintro m18 a16 w17 ⟨k,hm18,hlek,hR,hB,hM,hIk⟩
 refine SX.qs [.ld []] [3,7,8,9,10] [(.e 10 (.bool (decide ((k:Int)<(c.blocks.length:Int)))))] hR hM hB mix fun a19 w20 hR hb21 hB hM=>?_
 refine wp_seq_k fun K22 hK22=>?_
 refine SX.cond_ (decide ((k:Int)<(c.blocks.length:Int))) hR (by kernel_rfl) (fun h23=>?_) (fun h23=>?_)
 ·skip
  refine wp_skip ?_
  refine hK22 _ _ ?_
  refine wp_seq_k fun K24 hK24=>?_
  refine wp_block ?_
  refine wp_seq_k fun K25 hK25=>?_
  have hlt:k<c.blocks.length:=lt_of_dec h23
  obtain ⟨x,hx⟩:=get_of_lt hlt
  obtain ⟨bbx,box,hAx,B1x,j1x,B2x,j2x,B3x,j3x,B4x,j4x,hsx,hblx,cb0x,cb1x,cb2x,cb3x,cb4x,cb5x,cb6x,cb7x,cb8x,cb9x⟩:=h0.2.1.elem hx
  subst hAx; unfold Shape at hsx
  have hox:bbx<w.heap.size:=World.block_lt_of_cell? w _ cb0x
  replace hM:=(SX.cells_add (cell_below hB cb0x) (SX.cells_add (cell_below hB cb1x) (SX.cells_add (cell_below hB cb2x) (SX.cells_add (cell_below hB cb3x) (SX.cells_add (cell_below hB cb4x) (SX.cells_add (cell_below hB cb5x) (SX.cells_add (cell_below hB cb6x) (SX.cells_add (cell_below hB cb7x) (SX.cells_add (cell_below hB cb8x) (SX.cells_add (cell_below hB cb9x) hM))))))))))
  refine SX.region_l ?_
  refine SX.list_q (κ:=[]) 0 2 [.ix ⟨bbx,box+k*10,none⟩,.ld [0,1,2,3,4,5,6,7,8,9]] [3,7,8,9,12] [(.e 3 (.I (totW (c.blocks.take (k))))),(.e 7 (.slice (some ⟨bbx,box,none⟩) c.blocks.length k1)),(.e 8 (.I (c.blocks.length:Int))),(.e 9 (.I (k:Int))),(.e 12 (.agg #[.I x.params,.slice B1x x.ops.length j1x,.I x.term.kind,.I x.term.a,.I x.term.n,.slice B2x x.term.args.length j2x,.I x.term.b0,.slice B3x x.term.args0.length j3x,.I x.term.b1,.slice B4x x.term.args1.length j4x]))] [([],⟨bbx,box,none⟩,c.blocks.length,(k:Int),10,⟨bbx,box+k*10,none⟩)] [] [] [] hR hM (by kernel_rfl) (by kernel_rfl) ⟨fun hg=>SX.ix_ok (by omega),trivial⟩ trivial (fun w' hb' hM'=>trivial) (fun w' hb' hM'=>trivial) ?_
  clear hR hM; intro a26 w27 hR hb28 hM
  replace hB:=hB.tr hb28
  obtain ⟨n32,hn32⟩:∃ n,w27.heap.size=n:=⟨_,rfl⟩
  have hzn32:w.heap.size≤n32:=by have:=hB.size; omega
  refine SX.list_alloc 2 n32 [(.I 0),(.slice none 0 0),(.I 0),(.I 0),(.I 0),(.slice none 0 0),(.I 0),(.slice none 0 0),(.I 0),(.slice none 0 0)] 62 ((.e 5 (.P n32))::[(.e 3 (.I (totW (c.blocks.take (k))))),(.e 7 (.slice (some ⟨bbx,box,none⟩) c.blocks.length k1)),(.e 8 (.I (c.blocks.length:Int))),(.e 9 (.I (k:Int))),(.e 12 (.agg #[.I x.params,.slice B1x x.ops.length j1x,.I x.term.kind,.I x.term.a,.I x.term.n,.slice B2x x.term.args.length j2x,.I x.term.b0,.slice B3x x.term.args0.length j3x,.I x.term.b1,.slice B4x x.term.args1.length j4x]))]) hR hM hn32 (by kernel_rfl) ?_
  clear hR hM; intro a29 w30 hR hb31 hM hkn32 hln32 hnen32
  replace hB:=hB.tr hb31
  replace hR:SX.RSt 20 [] [(.e 3 (.I (totW (c.blocks.take (k))))),(.e 5 (.P n32)),(.e 7 (.slice (some ⟨bbx,box,none⟩) c.blocks.length k1)),(.e 8 (.I (c.blocks.length:Int))),(.e 9 (.I (k:Int))),(.e 12 (.agg #[.I x.params,.slice B1x x.ops.length j1x,.I x.term.kind,.I x.term.a,.I x.term.n,.slice B2x x.term.args.length j2x,.I x.term.b0,.slice B3x x.term.args0.length j3x,.I x.term.b1,.slice B4x x.term.args1.length j4x]))] a29:=hR.keep (ts:=[3,5,7,8,9,12]) (by kernel_rfl)
  refine SX.list_store 3 [(0,(.I x.params)),(1,(.slice B1x x.ops.length j1x)),(2,(.I x.term.kind)),(3,(.I x.term.a)),(4,(.I x.term.n)),(5,(.slice B2x x.term.args.length j2x)),(6,(.I x.term.b0)),(7,(.slice B3x x.term.args0.length j3x)),(8,(.I x.term.b1)),(9,(.slice B4x x.term.args1.length j4x))] [(.I x.params),(.slice B1x x.ops.length j1x),(.I x.term.kind),(.I x.term.a),(.I x.term.n),(.slice B2x x.term.args.length j2x),(.I x.term.b0),(.slice B3x x.term.args0.length j3x),(.I x.term.b1),(.slice B4x x.term.args1.length j4x)] [(⟨bbx,box+k*10,none⟩,(.I x.params)),(⟨bbx,box+k*10+1,none⟩,(.slice B1x x.ops.length j1x)),(⟨bbx,box+k*10+2,none⟩,(.I x.term.kind)),(⟨bbx,box+k*10+3,none⟩,(.I x.term.a)),(⟨bbx,box+k*10+4,none⟩,(.I x.term.n)),(⟨bbx,box+k*10+5,none⟩,(.slice B2x x.term.args.length j2x)),(⟨bbx,box+k*10+6,none⟩,(.I x.term.b0)),(⟨bbx,box+k*10+7,none⟩,(.slice B3x x.term.args0.length j3x)),(⟨bbx,box+k*10+8,none⟩,(.I x.term.b1)),(⟨bbx,box+k*10+9,none⟩,(.slice B4x x.term.args1.length j4x)),(⟨n5,0,none⟩,(.I c.params)),(⟨n5,1,none⟩,(.slice (some ⟨bbx,box,none⟩) c.blocks.length k1)),(⟨n5,2,none⟩,(.slice A2 c.contexts.length k2)),(⟨n5,3,none⟩,(.slice A3 c.objects.length k3))] [(⟨n32,0,none⟩,(.I x.params)),(⟨n32,1,none⟩,(.slice B1x x.ops.length j1x)),(⟨n32,2,none⟩,(.I x.term.kind)),(⟨n32,3,none⟩,(.I x.term.a)),(⟨n32,4,none⟩,(.I x.term.n)),(⟨n32,5,none⟩,(.slice B2x x.term.args.length j2x)),(⟨n32,6,none⟩,(.I x.term.b0)),(⟨n32,7,none⟩,(.slice B3x x.term.args0.length j3x)),(⟨n32,8,none⟩,(.I x.term.b1)),(⟨n32,9,none⟩,(.slice B4x x.term.args1.length j4x)),(⟨bbx,box+k*10,none⟩,(.I x.params)),(⟨bbx,box+k*10+1,none⟩,(.slice B1x x.ops.length j1x)),(⟨bbx,box+k*10+2,none⟩,(.I x.term.kind)),(⟨bbx,box+k*10+3,none⟩,(.I x.term.a)),(⟨bbx,box+k*10+4,none⟩,(.I x.term.n)),(⟨bbx,box+k*10+5,none⟩,(.slice B2x x.term.args.length j2x)),(⟨bbx,box+k*10+6,none⟩,(.I x.term.b0)),(⟨bbx,box+k*10+7,none⟩,(.slice B3x x.term.args0.length j3x)),(⟨bbx,box+k*10+8,none⟩,(.I x.term.b1)),(⟨bbx,box+k*10+9,none⟩,(.slice B4x x.term.args1.length j4x)),(⟨n5,0,none⟩,(.I c.params)),(⟨n5,1,none⟩,(.slice (some ⟨bbx,box,none⟩) c.blocks.length k1)),(⟨n5,2,none⟩,(.slice A2 c.contexts.length k2)),(⟨n5,3,none⟩,(.slice A3 c.objects.length k3))] hR (SX.cells_sub hM [0,1,2,3,4,5,6,7,8,9,10,11,12,13] (by kernel_rfl)) hnen32 hkn32 (by kernel_rfl) (by kernel_rfl) (by kernel_rfl) ?_
  clear hR hM hkn32; intro a33 w34 hR hb35 hM hkn32
  replace hB:=hB.trans (hb35.below (by omega))
  refine SX.list_end 4 (by kernel_rfl) ?_
  refine hK25 _ _ ?_
  refine SX.qf0 [] [.ld [],.ld [],.ld [1],.ld [],.nm (.I (totW (c.blocks.take (k+1)))),.ld []] [3,7,8,9] [(.e 3 (.I (totW (c.blocks.take (k+1)))))] [] [] [] [([],(.I (IntKind.i64.wrap ((totW (c.blocks.take (k)))+(x.ops.length:Int)))),(.I (totW (c.blocks.take (k+1)))))] hR hM hB mix trivial ⟨fun hg=>by rw [totW_step hx],trivial⟩ (fun w' hb' hM'=>trivial) (fun w' hb' hM'=>trivial) fun a36 w37 hR hb38 hB hM=>?_
  replace hkn32:=SX.blk_below hkn32 hb38
  refine hK24 _ _ ?_
  refine SX.qf0 [] [.nm (.I ((k+1:Nat):Int)),.ld []] [3,7,8,9] [(.e 9 (.I ((k+1:Nat):Int)))] [] [] [] [([],(.I (IntKind.i64.wrap ((k:Int)+1))),(.I ((k+1:Nat):Int)))] hR hM hB mix trivial ⟨fun hg=>SX.wrap_ok (by omega),trivial⟩ (fun w' hb' hM'=>trivial) (fun w' hb' hM'=>trivial) fun a39 w40 hR hb41 hB hM=>?_
  replace hkn32:=SX.blk_below hkn32 hb41
  exact ⟨c.blocks.length-(k+1),by omega,k+1,rfl,by omega,hR.keep (ts:=[3,7,8,9]) (by kernel_rfl),hB,SX.cells_sub hM [20,21,22,23] (by kernel_rfl),trivial⟩
 ·skip
  refine wp_exit ?_
  refine hK12 _ _ ?_
  refine SX.qs [.ld [],.ld []] [2,3,7,8,9] [(.e 2 (.I (totW (c.blocks.take (k)))))] hR hM hB mix fun a42 w43 hR hb44 hB hM=>?_
  refine wp_ret ?_
  try simp only [Exit.then,Exit.inBlock,Nat.reduceEqDiff,↓reduceIte]
  refine SX.ret_ 2 (.I (totW (c.blocks.take (k)))) Try.results45 hR (by kernel_rfl) ?_
  clear hR hM mix hK1 hzn5 hb4 hkn5 hln5 hn5 hb8 hb11 hK12 hb15 hm18 hb21 hK22 hb44
  exact ⟨ret_int (totW_all (le_of_dec h23)),hB⟩
end Go.Proofs.Ytlkcidmmpeebeaa
