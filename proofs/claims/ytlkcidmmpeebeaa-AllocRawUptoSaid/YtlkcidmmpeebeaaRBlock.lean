/- Proved: rightBlock -/
import Derived.Test.YtlkcidmmpeebeaaDefs
set_option linter.unusedVariables false
set_option linter.unusedSimpArgs false
namespace Go.Proofs.Ytlkcidmmpeebeaa
open Go.RowKit
set_option maxRecDepth 100000
set_option maxHeartbeats 2000000 in
theorem rightBlock_any (c:CodeD) (v1 v2 v3:Value) (w:World) (h:CodeAt w v1 v2 v3 c) (b:BlockD) (u1 u2 u3 u4:Value) (hb:BlkAt w u1 u2 u3 u4 b) (hcp:0≤c.params) (hbp:0≤b.params∧b.params≤999):Calls Try.prog 85 #[(.agg #[.I c.params,v1,v2,v3]),(.agg #[.I b.params,u1,.I b.term.kind,.I b.term.a,.I b.term.n,u2,.I b.term.b0,u3,.I b.term.b1,u4])] w fun e w'=>e=.returned (.bool (P.rightBlock c b))∧Below w.heap.size w w':=by
 have h0:=h
 obtain ⟨A1,k1,rfl,s1⟩:=h.2.1.shape
 obtain ⟨A2,k2,rfl,s2⟩:=h.2.2.1.shape
 obtain ⟨A3,k3,rfl,s3⟩:=h.2.2.2.shape
 unfold Shape at s1 s2 s3
 have hb0:=hb
 obtain ⟨B1,j1,rfl,t1⟩:=hb.2.1.shape
 obtain ⟨B2,j2,rfl,t2⟩:=hb.2.2.1.shape
 obtain ⟨B3,j3,rfl,t3⟩:=hb.2.2.2.1.shape
 obtain ⟨B4,j4,rfl,t4⟩:=hb.2.2.2.2.shape
 unfold Shape at t1 t2 t3 t4
 have mix:=mixed
 have hB:Below w.heap.size w w:=Below.refl _ _
 have hM:SX.Cells w []:=SX.cells_nil
 refine SX.enter [(.agg #[.I c.params,.slice A1 c.blocks.length k1,.slice A2 c.contexts.length k2,.slice A3 c.objects.length k3]),(.agg #[.I b.params,.slice B1 b.ops.length j1,.I b.term.kind,.I b.term.a,.I b.term.n,.slice B2 b.term.args.length j2,.I b.term.b0,.slice B3 b.term.args0.length j3,.I b.term.b1,.slice B4 b.term.args1.length j4])] 99 Try.func85 rfl rfl (by kernel_rfl) ?_
 intro a hR
 refine wp_seq_k fun K1 hK1=>?_
 refine SX.region_l ?_
 obtain ⟨n5,hn5⟩:∃ n,w.heap.size=n:=⟨_,rfl⟩
 have hzn5:w.heap.size≤n5:=by have:=hB.size; omega
 refine SX.list_box 0 n5 [(.I c.params),(.slice A1 c.blocks.length k1),(.slice A2 c.contexts.length k2),(.slice A3 c.objects.length k3)] 26 ((.e 2 (.P n5))::[(.e 0 (.agg #[.I c.params,.slice A1 c.blocks.length k1,.slice A2 c.contexts.length k2,.slice A3 c.objects.length k3])),(.e 1 (.agg #[.I b.params,.slice B1 b.ops.length j1,.I b.term.kind,.I b.term.a,.I b.term.n,.slice B2 b.term.args.length j2,.I b.term.b0,.slice B3 b.term.args0.length j3,.I b.term.b1,.slice B4 b.term.args1.length j4]))]) [(⟨n5,0,none⟩,(.I c.params)),(⟨n5,1,none⟩,(.slice A1 c.blocks.length k1)),(⟨n5,2,none⟩,(.slice A2 c.contexts.length k2)),(⟨n5,3,none⟩,(.slice A3 c.objects.length k3))] hR hM hn5 (by kernel_rfl) (by kernel_rfl) ?_
 clear hR hM; intro a2 w3 hR hb4 hM hkn5 hln5
 replace hB:=hB.tr hb4
 replace hR:SX.RSt 99 [] [(.e 1 (.agg #[.I b.params,.slice B1 b.ops.length j1,.I b.term.kind,.I b.term.a,.I b.term.n,.slice B2 b.term.args.length j2,.I b.term.b0,.slice B3 b.term.args0.length j3,.I b.term.b1,.slice B4 b.term.args1.length j4])),(.e 2 (.P n5))] a2:=hR.keep (ts:=[1,2]) (by kernel_rfl)
 obtain ⟨n9,hn9⟩:∃ n,w3.heap.size=n:=⟨_,rfl⟩
 have hzn9:w.heap.size≤n9:=by have:=hB.size; omega
 have qn5n9:n5<n9:=by have:=(Array.getElem?_eq_some_iff.1 hkn5).1; omega
 refine SX.list_box 1 n9 [(.I b.params),(.slice B1 b.ops.length j1),(.I b.term.kind),(.I b.term.a),(.I b.term.n),(.slice B2 b.term.args.length j2),(.I b.term.b0),(.slice B3 b.term.args0.length j3),(.I b.term.b1),(.slice B4 b.term.args1.length j4)] 62 ((.e 3 (.P n9))::[(.e 1 (.agg #[.I b.params,.slice B1 b.ops.length j1,.I b.term.kind,.I b.term.a,.I b.term.n,.slice B2 b.term.args.length j2,.I b.term.b0,.slice B3 b.term.args0.length j3,.I b.term.b1,.slice B4 b.term.args1.length j4])),(.e 2 (.P n5))]) [(⟨n9,0,none⟩,(.I b.params)),(⟨n9,1,none⟩,(.slice B1 b.ops.length j1)),(⟨n9,2,none⟩,(.I b.term.kind)),(⟨n9,3,none⟩,(.I b.term.a)),(⟨n9,4,none⟩,(.I b.term.n)),(⟨n9,5,none⟩,(.slice B2 b.term.args.length j2)),(⟨n9,6,none⟩,(.I b.term.b0)),(⟨n9,7,none⟩,(.slice B3 b.term.args0.length j3)),(⟨n9,8,none⟩,(.I b.term.b1)),(⟨n9,9,none⟩,(.slice B4 b.term.args1.length j4)),(⟨n5,0,none⟩,(.I c.params)),(⟨n5,1,none⟩,(.slice A1 c.blocks.length k1)),(⟨n5,2,none⟩,(.slice A2 c.contexts.length k2)),(⟨n5,3,none⟩,(.slice A3 c.objects.length k3))] hR hM hn9 (by kernel_rfl) (by kernel_rfl) ?_
 clear hR hM; intro a6 w7 hR hb8 hM hkn9 hln9
 replace hB:=hB.tr hb8
 replace hkn5:=SX.blk_below hkn5 hb8
 replace hR:SX.RSt 99 [] [(.e 2 (.P n5)),(.e 3 (.P n9))] a6:=hR.keep (ts:=[2,3]) (by kernel_rfl)
 refine SX.list_q0 (κ:=[]) 2 1 [.ld []] [2,3] [(.e 2 (.P n5)),(.e 3 (.P n9))] hR hM (by kernel_rfl) (by kernel_rfl) ?_
 clear hR hM; intro a10 w11 hR hb12 hM
 replace hB:=hB.tr hb12
 replace hkn5:=SX.blk_below hkn5 hb12
 replace hkn9:=SX.blk_below hkn9 hb12
 refine SX.list_end 3 (by kernel_rfl) ?_
 refine hK1 _ _ ?_
 refine wp_seq_k fun K13 hK13=>?_
 refine SX.region_l ?_
 refine SX.list_q0 (κ:=[]) 0 2 [.ld [],.ld [0]] [2,3,13] [(.e 2 (.P n5)),(.e 3 (.P n9)),(.e 13 (.I b.params))] hR hM (by kernel_rfl) (by kernel_rfl) ?_
 clear hR hM; intro a14 w15 hR hb16 hM
 replace hB:=hB.tr hb16
 replace hkn5:=SX.blk_below hkn5 hb16
 replace hkn9:=SX.blk_below hkn9 hb16
 obtain ⟨n17,hn17⟩:∃ n,w15.heap.size=n:=⟨_,rfl⟩
 have hzn17:w.heap.size≤n17:=by have:=hB.size; omega
 have qn5n17:n5<n17:=by have:=(Array.getElem?_eq_some_iff.1 hkn5).1; omega
 have qn9n17:n9<n17:=by have:=(Array.getElem?_eq_some_iff.1 hkn9).1; omega
 refine SX.list_new 2 n17 (.map #[] 0) ((.e 14 (.map (some n17)))::[(.e 2 (.P n5)),(.e 3 (.P n9)),(.e 13 (.I b.params))]) hR hn17 (by kernel_rfl) ?_
 clear hR; intro a18 hR
 obtain ⟨w19,hw19⟩:∃ w2,w2=w15.alloc (.map #[] 0):=⟨_,rfl⟩
 rw [← hw19]
 have hb20:Below w15.heap.size w15 w19:=by rw [hw19]; exact (Below.refl _ _).alloc (Nat.le_refl _) _
 have hmap:MapI w19 n17 []:=by rw [hw19]; exact MapI.new hn17
 clear hw19; replace hM:=hM.below hb20
 replace hB:=hB.tr hb20
 replace hkn5:=SX.blk_below hkn5 hb20
 replace hkn9:=SX.blk_below hkn9 hb20
 replace hR:SX.RSt 99 [] [(.e 2 (.P n5)),(.e 3 (.P n9)),(.e 13 (.I b.params)),(.e 14 (.map (some n17)))] a18:=hR.keep (ts:=[2,3,13,14]) (by kernel_rfl)
 refine SX.list_q0 (κ:=[]) 3 1 [.ld []] [2,3,15] [(.e 2 (.P n5)),(.e 3 (.P n9)),(.e 15 (.agg #[.I b.params,.map (some n17)]))] hR hM (by kernel_rfl) (by kernel_rfl) ?_
 clear hR hM; intro a21 w22 hR hb23 hM
 replace hB:=hB.tr hb23
 replace hmap:=hmap.below hb23
 replace hkn5:=SX.blk_below hkn5 hb23
 replace hkn9:=SX.blk_below hkn9 hb23
 obtain ⟨n27,hn27⟩:∃ n,w22.heap.size=n:=⟨_,rfl⟩
 have hzn27:w.heap.size≤n27:=by have:=hB.size; omega
 have qn5n27:n5<n27:=by have:=(Array.getElem?_eq_some_iff.1 hkn5).1; omega
 have qn9n27:n9<n27:=by have:=(Array.getElem?_eq_some_iff.1 hkn9).1; omega
 have qn17n27:n17<n27:=by have:=hmap.lt; omega
 refine SX.list_alloc 4 n27 [(.I 0),(.map none)] 183 ((.e 5 (.P n27))::[(.e 2 (.P n5)),(.e 3 (.P n9)),(.e 15 (.agg #[.I b.params,.map (some n17)]))]) hR hM hn27 (by kernel_rfl) ?_
 clear hR hM; intro a24 w25 hR hb26 hM hkn27 hln27 hnen27
 replace hB:=hB.tr hb26
 replace hmap:=hmap.below hb26
 replace hkn5:=SX.blk_below hkn5 hb26
 replace hkn9:=SX.blk_below hkn9 hb26
 replace hR:SX.RSt 99 [] [(.e 2 (.P n5)),(.e 3 (.P n9)),(.e 5 (.P n27)),(.e 15 (.agg #[.I b.params,.map (some n17)]))] a24:=hR.keep (ts:=[2,3,5,15]) (by kernel_rfl)
 refine SX.list_store 5 [(0,(.I b.params)),(1,(.map (some n17)))] [(.I b.params),(.map (some n17))] [(⟨n9,0,none⟩,(.I b.params)),(⟨n9,1,none⟩,(.slice B1 b.ops.length j1)),(⟨n9,2,none⟩,(.I b.term.kind)),(⟨n9,3,none⟩,(.I b.term.a)),(⟨n9,4,none⟩,(.I b.term.n)),(⟨n9,5,none⟩,(.slice B2 b.term.args.length j2)),(⟨n9,6,none⟩,(.I b.term.b0)),(⟨n9,7,none⟩,(.slice B3 b.term.args0.length j3)),(⟨n9,8,none⟩,(.I b.term.b1)),(⟨n9,9,none⟩,(.slice B4 b.term.args1.length j4)),(⟨n5,0,none⟩,(.I c.params)),(⟨n5,1,none⟩,(.slice A1 c.blocks.length k1)),(⟨n5,2,none⟩,(.slice A2 c.contexts.length k2)),(⟨n5,3,none⟩,(.slice A3 c.objects.length k3))] [(⟨n27,0,none⟩,(.I b.params)),(⟨n27,1,none⟩,(.map (some n17))),(⟨n9,0,none⟩,(.I b.params)),(⟨n9,1,none⟩,(.slice B1 b.ops.length j1)),(⟨n9,2,none⟩,(.I b.term.kind)),(⟨n9,3,none⟩,(.I b.term.a)),(⟨n9,4,none⟩,(.I b.term.n)),(⟨n9,5,none⟩,(.slice B2 b.term.args.length j2)),(⟨n9,6,none⟩,(.I b.term.b0)),(⟨n9,7,none⟩,(.slice B3 b.term.args0.length j3)),(⟨n9,8,none⟩,(.I b.term.b1)),(⟨n9,9,none⟩,(.slice B4 b.term.args1.length j4)),(⟨n5,0,none⟩,(.I c.params)),(⟨n5,1,none⟩,(.slice A1 c.blocks.length k1)),(⟨n5,2,none⟩,(.slice A2 c.contexts.length k2)),(⟨n5,3,none⟩,(.slice A3 c.objects.length k3))] hR (SX.cells_sub hM [0,1,2,3,4,5,6,7,8,9,10,11,12,13] (by kernel_rfl)) hnen27 hkn27 (by kernel_rfl) (by kernel_rfl) (by kernel_rfl) ?_
 clear hR hM hkn27; intro a28 w29 hR hb30 hM hkn27
 replace hB:=hB.trans (hb30.below (by omega))
 replace hmap:=hmap.but hb30 (by omega)
 replace hkn5:=(hb30.block _ (by omega)).trans hkn5
 replace hkn9:=(hb30.block _ (by omega)).trans hkn9
 refine SX.list_end 6 (by kernel_rfl) ?_
 refine hK13 _ _ ?_
 refine wp_seq_k fun K31 hK31=>?_
 refine SX.qs [.ld [],.ld [3],.ld [],.ld []] [2,3,5,17,18,19] [(.e 17 (.slice B1 b.ops.length j1)),(.e 18 (.I (b.ops.length:Int))),(.e 19 (.I 0))] hR hM hB mix fun a32 w33 hR hb34 hB hM=>?_
 replace hmap:=hmap.below hb34
 replace hkn5:=SX.blk_below hkn5 hb34
 replace hkn9:=SX.blk_below hkn9 hb34
 replace hkn27:=SX.blk_below hkn27 hb34
 refine wp_block ?_
 refine wp_loop_ghost (fun m37 a' w'=>∃ k:Nat,m37=b.ops.length-k∧k≤b.ops.length∧SX.RSt 99 [] [(.e 2 (.P n5)),(.e 3 (.P n9)),(.e 5 (.P n27)),(.e 17 (.slice B1 b.ops.length j1)),(.e 18 (.I (b.ops.length:Int))),(.e 19 (.I (k:Int)))] a'∧Below w.heap.size w w'∧SX.Cells w' [(⟨n27,0,none⟩,(.I b.params)),(⟨n27,1,none⟩,(.map (some n17))),(⟨n9,0,none⟩,(.I b.params)),(⟨n9,1,none⟩,(.slice B1 b.ops.length j1)),(⟨n9,2,none⟩,(.I b.term.kind)),(⟨n9,3,none⟩,(.I b.term.a)),(⟨n9,4,none⟩,(.I b.term.n)),(⟨n9,5,none⟩,(.slice B2 b.term.args.length j2)),(⟨n9,6,none⟩,(.I b.term.b0)),(⟨n9,7,none⟩,(.slice B3 b.term.args0.length j3)),(⟨n9,8,none⟩,(.I b.term.b1)),(⟨n9,9,none⟩,(.slice B4 b.term.args1.length j4)),(⟨n5,0,none⟩,(.I c.params)),(⟨n5,1,none⟩,(.slice A1 c.blocks.length k1)),(⟨n5,2,none⟩,(.slice A2 c.contexts.length k2)),(⟨n5,3,none⟩,(.slice A3 c.objects.length k3))]∧(MapI w' n17 (dk b.ops (k))∧Upto b.ops (okDef b.params b.ops) (k))) (b.ops.length-0) ⟨0,rfl,Nat.zero_le _,hR.keep (ts:=[2,3,5,17,18,19]) (by kernel_rfl),hB,hM,⟨hmap,Upto.zero⟩⟩ ?_
 clear hR hM hB
 rintro m37 a35 w36 ⟨k,hm37,hlek,hR,hB,hM,hIk⟩
 obtain ⟨hmap,hup⟩:=hIk
 refine SX.qs [.ld []] [2,3,5,17,18,19,20] [(.e 20 (.bool (decide ((k:Int)<(b.ops.length:Int)))))] hR hM hB mix fun a38 w39 hR hb40 hB hM=>?_
 replace hmap:=hmap.below hb40
 refine wp_seq_k fun K41 hK41=>?_
 refine SX.cond_ (decide ((k:Int)<(b.ops.length:Int))) hR (by kernel_rfl) (fun h42=>?_) (fun h42=>?_)
 ·skip
  refine wp_skip ?_
  refine hK41 _ _ ?_
  refine wp_seq_k fun K43 hK43=>?_
  refine wp_block ?_
  refine wp_seq_k fun K44 hK44=>?_
  have hlt:k<b.ops.length:=lt_of_dec h42
  obtain ⟨y,hy⟩:=get_of_lt hlt
  obtain ⟨oby,ooy,hAy,hiy,co0y,co1y,co2y,co3y,co4y,co5y,co6y,co7y,co8y,co9y,co10y⟩:=hb0.2.1.elem hy
  subst hAy
  have hoy:oby<w.heap.size:=World.block_lt_of_cell? w _ co0y
  replace hM:=(SX.cells_add (cell_below hB co0y) (SX.cells_add (cell_below hB co1y) (SX.cells_add (cell_below hB co2y) (SX.cells_add (cell_below hB co3y) (SX.cells_add (cell_below hB co4y) (SX.cells_add (cell_below hB co5y) (SX.cells_add (cell_below hB co6y) (SX.cells_add (cell_below hB co7y) (SX.cells_add (cell_below hB co8y) (SX.cells_add (cell_below hB co9y) (SX.cells_add (cell_below hB co10y) hM)))))))))))
  refine SX.region_l ?_
  refine SX.list_q (κ:=[]) 0 3 [.ld [],.ix ⟨oby,ooy+k*11,none⟩,.ld [0,1,2,3,4,5,6,7,8,9,10]] [2,3,5,17,18,19,21,23] [(.e 2 (.P n5)),(.e 3 (.P n9)),(.e 5 (.P n27)),(.e 17 (.slice (some ⟨oby,ooy,none⟩) b.ops.length j1)),(.e 18 (.I (b.ops.length:Int))),(.e 19 (.I (k:Int))),(.e 21 (.I (k:Int))),(.e 23 (.agg #[.I y.kind,.I y.dst,.I y.a,.I y.b,.I y.n,.I y.ctx,.I y.var,.I y.piece,.I y.sk,.I y.sv,.I y.sa]))] [([],⟨oby,ooy,none⟩,b.ops.length,(k:Int),11,⟨oby,ooy+k*11,none⟩)] [] [] [] hR hM (by kernel_rfl) (by kernel_rfl) ⟨fun hg=>SX.ix_ok (by omega),trivial⟩ trivial (fun w' hb' hM'=>trivial) (fun w' hb' hM'=>trivial) ?_
  clear hR hM; intro a45 w46 hR hb47 hM
  replace hB:=hB.tr hb47
  replace hmap:=hmap.below hb47
  obtain ⟨n51,hn51⟩:∃ n,w46.heap.size=n:=⟨_,rfl⟩
  have hzn51:w.heap.size≤n51:=by have:=hB.size; omega
  have qn17n51:n17<n51:=by have:=hmap.lt; omega
  refine SX.list_alloc 3 n51 [(.I 0),(.I 0),(.I 0),(.I 0),(.I 0),(.I 0),(.I 0),(.I 0),(.I 0),(.I 0),(.I 0)] 74 ((.e 7 (.P n51))::[(.e 2 (.P n5)),(.e 3 (.P n9)),(.e 5 (.P n27)),(.e 17 (.slice (some ⟨oby,ooy,none⟩) b.ops.length j1)),(.e 18 (.I (b.ops.length:Int))),(.e 19 (.I (k:Int))),(.e 21 (.I (k:Int))),(.e 23 (.agg #[.I y.kind,.I y.dst,.I y.a,.I y.b,.I y.n,.I y.ctx,.I y.var,.I y.piece,.I y.sk,.I y.sv,.I y.sa]))]) hR hM hn51 (by kernel_rfl) ?_
  clear hR hM; intro a48 w49 hR hb50 hM hkn51 hln51 hnen51
  replace hB:=hB.tr hb50
  replace hmap:=hmap.below hb50
  replace hR:SX.RSt 99 [] [(.e 2 (.P n5)),(.e 3 (.P n9)),(.e 5 (.P n27)),(.e 7 (.P n51)),(.e 17 (.slice (some ⟨oby,ooy,none⟩) b.ops.length j1)),(.e 18 (.I (b.ops.length:Int))),(.e 19 (.I (k:Int))),(.e 21 (.I (k:Int))),(.e 23 (.agg #[.I y.kind,.I y.dst,.I y.a,.I y.b,.I y.n,.I y.ctx,.I y.var,.I y.piece,.I y.sk,.I y.sv,.I y.sa]))] a48:=hR.keep (ts:=[2,3,5,7,17,18,19,21,23]) (by kernel_rfl)
  refine SX.list_q0 (κ:=[]) 4 1 [.ld []] [2,3,5,6,7,17,18,19,23] [(.e 2 (.P n5)),(.e 3 (.P n9)),(.e 5 (.P n27)),(.e 6 (.I (k:Int))),(.e 7 (.P n51)),(.e 17 (.slice (some ⟨oby,ooy,none⟩) b.ops.length j1)),(.e 18 (.I (b.ops.length:Int))),(.e 19 (.I (k:Int))),(.e 23 (.agg #[.I y.kind,.I y.dst,.I y.a,.I y.b,.I y.n,.I y.ctx,.I y.var,.I y.piece,.I y.sk,.I y.sv,.I y.sa]))] hR hM (by kernel_rfl) (by kernel_rfl) ?_
  clear hR hM; intro a52 w53 hR hb54 hM
  replace hB:=hB.tr hb54
  replace hmap:=hmap.below hb54
  replace hkn51:=SX.blk_below hkn51 hb54
  refine SX.list_store 5 [(0,(.I y.kind)),(1,(.I y.dst)),(2,(.I y.a)),(3,(.I y.b)),(4,(.I y.n)),(5,(.I y.ctx)),(6,(.I y.var)),(7,(.I y.piece)),(8,(.I y.sk)),(9,(.I y.sv)),(10,(.I y.sa))] [(.I y.kind),(.I y.dst),(.I y.a),(.I y.b),(.I y.n),(.I y.ctx),(.I y.var),(.I y.piece),(.I y.sk),(.I y.sv),(.I y.sa)] [(⟨oby,ooy+k*11,none⟩,(.I y.kind)),(⟨oby,ooy+k*11+1,none⟩,(.I y.dst)),(⟨oby,ooy+k*11+2,none⟩,(.I y.a)),(⟨oby,ooy+k*11+3,none⟩,(.I y.b)),(⟨oby,ooy+k*11+4,none⟩,(.I y.n)),(⟨oby,ooy+k*11+5,none⟩,(.I y.ctx)),(⟨oby,ooy+k*11+6,none⟩,(.I y.var)),(⟨oby,ooy+k*11+7,none⟩,(.I y.piece)),(⟨oby,ooy+k*11+8,none⟩,(.I y.sk)),(⟨oby,ooy+k*11+9,none⟩,(.I y.sv)),(⟨oby,ooy+k*11+10,none⟩,(.I y.sa)),(⟨n27,0,none⟩,(.I b.params)),(⟨n27,1,none⟩,(.map (some n17))),(⟨n9,0,none⟩,(.I b.params)),(⟨n9,1,none⟩,(.slice (some ⟨oby,ooy,none⟩) b.ops.length j1)),(⟨n9,2,none⟩,(.I b.term.kind)),(⟨n9,3,none⟩,(.I b.term.a)),(⟨n9,4,none⟩,(.I b.term.n)),(⟨n9,5,none⟩,(.slice B2 b.term.args.length j2)),(⟨n9,6,none⟩,(.I b.term.b0)),(⟨n9,7,none⟩,(.slice B3 b.term.args0.length j3)),(⟨n9,8,none⟩,(.I b.term.b1)),(⟨n9,9,none⟩,(.slice B4 b.term.args1.length j4)),(⟨n5,0,none⟩,(.I c.params)),(⟨n5,1,none⟩,(.slice A1 c.blocks.length k1)),(⟨n5,2,none⟩,(.slice A2 c.contexts.length k2)),(⟨n5,3,none⟩,(.slice A3 c.objects.length k3))] [(⟨n51,0,none⟩,(.I y.kind)),(⟨n51,1,none⟩,(.I y.dst)),(⟨n51,2,none⟩,(.I y.a)),(⟨n51,3,none⟩,(.I y.b)),(⟨n51,4,none⟩,(.I y.n)),(⟨n51,5,none⟩,(.I y.ctx)),(⟨n51,6,none⟩,(.I y.var)),(⟨n51,7,none⟩,(.I y.piece)),(⟨n51,8,none⟩,(.I y.sk)),(⟨n51,9,none⟩,(.I y.sv)),(⟨n51,10,none⟩,(.I y.sa)),(⟨oby,ooy+k*11,none⟩,(.I y.kind)),(⟨oby,ooy+k*11+1,none⟩,(.I y.dst)),(⟨oby,ooy+k*11+2,none⟩,(.I y.a)),(⟨oby,ooy+k*11+3,none⟩,(.I y.b)),(⟨oby,ooy+k*11+4,none⟩,(.I y.n)),(⟨oby,ooy+k*11+5,none⟩,(.I y.ctx)),(⟨oby,ooy+k*11+6,none⟩,(.I y.var)),(⟨oby,ooy+k*11+7,none⟩,(.I y.piece)),(⟨oby,ooy+k*11+8,none⟩,(.I y.sk)),(⟨oby,ooy+k*11+9,none⟩,(.I y.sv)),(⟨oby,ooy+k*11+10,none⟩,(.I y.sa)),(⟨n27,0,none⟩,(.I b.params)),(⟨n27,1,none⟩,(.map (some n17))),(⟨n9,0,none⟩,(.I b.params)),(⟨n9,1,none⟩,(.slice (some ⟨oby,ooy,none⟩) b.ops.length j1)),(⟨n9,2,none⟩,(.I b.term.kind)),(⟨n9,3,none⟩,(.I b.term.a)),(⟨n9,4,none⟩,(.I b.term.n)),(⟨n9,5,none⟩,(.slice B2 b.term.args.length j2)),(⟨n9,6,none⟩,(.I b.term.b0)),(⟨n9,7,none⟩,(.slice B3 b.term.args0.length j3)),(⟨n9,8,none⟩,(.I b.term.b1)),(⟨n9,9,none⟩,(.slice B4 b.term.args1.length j4)),(⟨n5,0,none⟩,(.I c.params)),(⟨n5,1,none⟩,(.slice A1 c.blocks.length k1)),(⟨n5,2,none⟩,(.slice A2 c.contexts.length k2)),(⟨n5,3,none⟩,(.slice A3 c.objects.length k3))] hR (SX.cells_sub hM [0,1,2,3,4,5,6,7,8,9,10,11,12,13,14,15,16,17,18,19,20,21,22,23,24,25,26] (by kernel_rfl)) hnen51 hkn51 (by kernel_rfl) (by kernel_rfl) (by kernel_rfl) ?_
  clear hR hM hkn51; intro a55 w56 hR hb57 hM hkn51
  replace hB:=hB.trans (hb57.below (by omega))
  replace hmap:=hmap.but hb57 (by omega)
  refine SX.list_end 6 (by kernel_rfl) ?_
  refine hK44 _ _ ?_
  refine wp_seq_k fun K58 hK58=>?_
  refine SX.qf [] [.ld [],.ld [0],.cl (.I (fieldsN y.kind)),.ld [],.ld []] [2,3,5,6,7,17,18,19,28] [(.e 28 (.bool ((andI (fieldsN y.kind) 1)==0)))] [] [] [([],126,#[(.I y.kind)],(.I (fieldsN y.kind)))] [] hR hM hB mix trivial trivial (fun w' hb' hM'=>trivial) (fun w' hb' hM'=>⟨fun hg=>SX.pureC (fields_any _ _),trivial⟩) fun a59 w60 hR hb61 hB hM=>?_
  replace hmap:=hmap.below hb61
  replace hkn51:=SX.blk_below hkn51 hb61
  refine SX.cond_ ((andI (fieldsN y.kind) 1)==0) hR (by kernel_rfl) (fun h62=>?_) (fun h62=>?_)
  ·skip
   refine wp_exit ?_
   refine hK43 _ _ ?_
   refine SX.qf0 [] [.nm (.I ((k+1:Nat):Int)),.ld []] [2,3,5,17,18,19] [(.e 19 (.I ((k+1:Nat):Int)))] [] [] [] [([],(.I (IntKind.i64.wrap ((k:Int)+1))),(.I ((k+1:Nat):Int)))] hR hM hB mix trivial ⟨fun hg=>SX.wrap_ok (by omega),trivial⟩ (fun w' hb' hM'=>trivial) (fun w' hb' hM'=>trivial) fun a63 w64 hR hb65 hB hM=>?_
   replace hmap:=hmap.below hb65
   replace hkn51:=SX.blk_below hkn51 hb65
   exact ⟨b.ops.length-(k+1),by omega,k+1,rfl,by omega,hR.keep (ts:=[2,3,5,17,18,19]) (by kernel_rfl),hB,SX.cells_sub hM [22,23,24,25,26,27,28,29,30,31,32,33,34,35,36,37] (by kernel_rfl),⟨by rw [dk_no hy (show P.fDst y.kind=false from by have:=h62; rw [f_dst] at this; simpa using this)]; exact hmap,hup.step hy (by unfold okDef; rw [(show P.fDst y.kind=false from by have:=h62; rw [f_dst] at this; simpa using this)]; rfl)⟩⟩
  ·skip
   refine wp_skip ?_
   refine hK58 _ _ ?_
   refine wp_seq_k fun K66 hK66=>?_
   refine SX.qf [] [.ld [],.ld [23],.ld [],.ld [1],.hd (.tuple #[.I ((findD (dk b.ops k) y.dst).getD 0),.bool ((findD (dk b.ops k) y.dst).isSome)]),.ld [],.ld [],.ld [],.ld [],.ld []] [2,3,5,6,7,9,17,18,19] [(.e 9 (.bool ((findD (dk b.ops k) y.dst).isSome)))] [] [([],lookS 139 (.map (some n17)) (.I y.dst) true,(.tuple #[.I ((findD (dk b.ops k) y.dst).getD 0),.bool ((findD (dk b.ops k) y.dst).isSome)]))] [] [] hR hM hB mix trivial trivial (fun w' hb' hM'=>⟨fun hg=>lookS_run (hmap.below hb') y.dst,trivial⟩) (fun w' hb' hM'=>trivial) fun a67 w68 hR hb69 hB hM=>?_
   replace hmap:=hmap.below hb69
   replace hkn51:=SX.blk_below hkn51 hb69
   refine SX.qf [(1,(findD (dk b.ops k) y.dst).isSome),(8,((findD (dk b.ops k) y.dst).isSome||decide (y.dst<b.params)))] [.ld [],.ld [],.ld [],.ld [1],.ld [],.ld [24],.ld [],.pk,.ld [],.ld [],.ld [1],.ld [],.pk] [2,3,5,6,7,17,18,19,49] [(.e 49 (.bool (((findD (dk b.ops k) y.dst).isSome||decide (y.dst<b.params))||decide (9999<y.dst))))] [] [] [] [] hR hM hB mix trivial trivial (fun w' hb' hM'=>trivial) (fun w' hb' hM'=>trivial) fun a70 w71 hR hb72 hB hM=>?_
   replace hmap:=hmap.below hb72
   replace hkn51:=SX.blk_below hkn51 hb72
   refine SX.cond_ (((findD (dk b.ops k) y.dst).isSome||decide (y.dst<b.params))||decide (9999<y.dst)) hR (by kernel_rfl) (fun h73=>?_) (fun h73=>?_)
   ·skip
    refine SX.qs [.ld []] [2,3,4,5,17,18,19] [(.e 4 (.bool false))] hR hM hB mix fun a74 w75 hR hb76 hB hM=>?_
    replace hmap:=hmap.below hb76
    replace hkn51:=SX.blk_below hkn51 hb76
    refine wp_ret ?_
    try simp only [Exit.then,Exit.inBlock,Nat.reduceEqDiff,↓reduceIte]
    refine SX.ret_ 4 (.bool false) Try.results85 hR (by kernel_rfl) ?_
    clear hR hM mix hK1 hzn5 hb4 hkn5 hln5 hn5 hzn9 qn5n9 hb8 hkn9 hln9 hn9 hb12 hK13 hb16 qn5n17 qn9n17 hb20 hn17 hzn17 hb23 hzn27 qn5n27 qn9n27 qn17n27 hb26 hkn27 hln27 hn27 hnen27 hb30 hK31 hb34 hm37 hb40 hK41 hK43 hK44 hb47 hzn51 qn17n51 hb50 hkn51 hln51 hn51 hnen51 hb54 hb57 hK58 hb61 hK66 hb69 hb72 hb76
    refine ⟨ret_bool ?_,hB⟩
    rw [rightBlock_eq]
    rw [← allAt_no hy (by unfold okDef; rw [show P.fDst y.kind=true from by have:=h62; rw [f_dst] at this; simpa using this,h73]; rfl)]; rfl
   ·skip
    refine wp_skip ?_
    refine hK66 _ _ ?_
    refine SX.region_l ?_
    refine SX.list_q0 (κ:=[]) 0 5 [.ld [],.ld [23],.ld [],.ld [1],.ld []] [2,3,5,17,18,19,51,53,54] [(.e 2 (.P n5)),(.e 3 (.P n9)),(.e 5 (.P n27)),(.e 17 (.slice (some ⟨oby,ooy,none⟩) b.ops.length j1)),(.e 18 (.I (b.ops.length:Int))),(.e 19 (.I (k:Int))),(.e 51 (.map (some n17))),(.e 53 (.I y.dst)),(.e 54 (.I (k:Int)))] hR hM (by kernel_rfl) (by kernel_rfl) ?_
    clear hR hM; intro a77 w78 hR hb79 hM
    replace hB:=hB.tr hb79
    replace hmap:=hmap.below hb79
    replace hkn51:=SX.blk_below hkn51 hb79
    obtain ⟨w81,hrunw81,hb82,hneww81⟩:=updI_run hmap y.dst (k:Int) (by have:=h73; simp only [Bool.or_eq_false_iff] at this; simpa using this.1.1)
    refine SX.list_skip 5 (updS 139 (.map (some n17)) (.I y.dst) (.I (k:Int))) hR (by kernel_rfl) hrunw81 ?_
    clear hR hrunw81 hmap; intro a80 hR; have hmap:=hneww81; clear hneww81
    replace hB:=hB.trans (hb82.below (by omega))
    have hqn51n17:n51≠n17:=by omega
    have hqobyn17:oby≠n17:=by omega
    have hqn27n17:n27≠n17:=by omega
    have hqn9n17:n9≠n17:=by omega
    have hqn5n17:n5≠n17:=by omega
    replace hM:=SX.cells_but hM hb82 (SX.ne_cons hqn51n17 (SX.ne_cons hqn51n17 (SX.ne_cons hqn51n17 (SX.ne_cons hqn51n17 (SX.ne_cons hqn51n17 (SX.ne_cons hqn51n17 (SX.ne_cons hqn51n17 (SX.ne_cons hqn51n17 (SX.ne_cons hqn51n17 (SX.ne_cons hqn51n17 (SX.ne_cons hqn51n17 (SX.ne_cons hqobyn17 (SX.ne_cons hqobyn17 (SX.ne_cons hqobyn17 (SX.ne_cons hqobyn17 (SX.ne_cons hqobyn17 (SX.ne_cons hqobyn17 (SX.ne_cons hqobyn17 (SX.ne_cons hqobyn17 (SX.ne_cons hqobyn17 (SX.ne_cons hqobyn17 (SX.ne_cons hqobyn17 (SX.ne_cons hqn27n17 (SX.ne_cons hqn27n17 (SX.ne_cons hqn9n17 (SX.ne_cons hqn9n17 (SX.ne_cons hqn9n17 (SX.ne_cons hqn9n17 (SX.ne_cons hqn9n17 (SX.ne_cons hqn9n17 (SX.ne_cons hqn9n17 (SX.ne_cons hqn9n17 (SX.ne_cons hqn9n17 (SX.ne_cons hqn9n17 (SX.ne_cons hqn5n17 (SX.ne_cons hqn5n17 (SX.ne_cons hqn5n17 (SX.ne_cons hqn5n17 SX.ne_nil))))))))))))))))))))))))))))))))))))))
    replace hkn51:=(hb82.block _ (by omega)).trans hkn51
    refine SX.list_end 6 (by kernel_rfl) ?_
    refine hK43 _ _ ?_
    refine SX.qf0 [] [.nm (.I ((k+1:Nat):Int)),.ld []] [2,3,5,17,18,19] [(.e 19 (.I ((k+1:Nat):Int)))] [] [] [] [([],(.I (IntKind.i64.wrap ((k:Int)+1))),(.I ((k+1:Nat):Int)))] hR hM hB mix trivial ⟨fun hg=>SX.wrap_ok (by omega),trivial⟩ (fun w' hb' hM'=>trivial) (fun w' hb' hM'=>trivial) fun a83 w84 hR hb85 hB hM=>?_
    replace hmap:=hmap.below hb85
    replace hkn51:=SX.blk_below hkn51 hb85
    exact ⟨b.ops.length-(k+1),by omega,k+1,rfl,by omega,hR.keep (ts:=[2,3,5,17,18,19]) (by kernel_rfl),hB,SX.cells_sub hM [22,23,24,25,26,27,28,29,30,31,32,33,34,35,36,37] (by kernel_rfl),⟨by rw [dk_yes hy (show P.fDst y.kind=true from by have:=h62; rw [f_dst] at this; simpa using this)]; exact hmap,hup.step hy (by unfold okDef; rw [(show P.fDst y.kind=true from by have:=h62; rw [f_dst] at this; simpa using this),h73]; rfl)⟩⟩
 ·skip
  refine wp_exit ?_
  refine hK31 _ _ ?_
  refine wp_seq_k fun K86 hK86=>?_
  obtain rfl:k=b.ops.length:=by have:=le_of_dec h42; omega
  have hdefs:=hup.allAt (Nat.le_refl _); clear hup
  refine SX.qs [.ld [],.ld [3],.ld [],.ld []] [2,3,5,17,18,19,57,58,59] [(.e 57 (.slice B1 b.ops.length j1)),(.e 58 (.I (b.ops.length:Int))),(.e 59 (.I 0))] hR hM hB mix fun a87 w88 hR hb89 hB hM=>?_
  replace hmap:=hmap.below hb89
  refine wp_block ?_
  refine wp_loop_ghost (fun m92 a' w'=>∃ j:Nat,m92=b.ops.length-j∧j≤b.ops.length∧SX.RSt 99 [] [(.e 2 (.P n5)),(.e 3 (.P n9)),(.e 5 (.P n27)),(.e 17 (.slice B1 b.ops.length j1)),(.e 18 (.I (b.ops.length:Int))),(.e 19 (.I (b.ops.length:Int))),(.e 57 (.slice B1 b.ops.length j1)),(.e 58 (.I (b.ops.length:Int))),(.e 59 (.I (j:Int)))] a'∧Below w.heap.size w w'∧SX.Cells w' [(⟨n27,0,none⟩,(.I b.params)),(⟨n27,1,none⟩,(.map (some n17))),(⟨n9,0,none⟩,(.I b.params)),(⟨n9,1,none⟩,(.slice B1 b.ops.length j1)),(⟨n9,2,none⟩,(.I b.term.kind)),(⟨n9,3,none⟩,(.I b.term.a)),(⟨n9,4,none⟩,(.I b.term.n)),(⟨n9,5,none⟩,(.slice B2 b.term.args.length j2)),(⟨n9,6,none⟩,(.I b.term.b0)),(⟨n9,7,none⟩,(.slice B3 b.term.args0.length j3)),(⟨n9,8,none⟩,(.I b.term.b1)),(⟨n9,9,none⟩,(.slice B4 b.term.args1.length j4)),(⟨n5,0,none⟩,(.I c.params)),(⟨n5,1,none⟩,(.slice A1 c.blocks.length k1)),(⟨n5,2,none⟩,(.slice A2 c.contexts.length k2)),(⟨n5,3,none⟩,(.slice A3 c.objects.length k3))]∧(MapI w' n17 (dk b.ops b.ops.length)∧Upto b.ops (opAt c b) (j))) (b.ops.length-0) ⟨0,rfl,Nat.zero_le _,hR.keep (ts:=[2,3,5,17,18,19,57,58,59]) (by kernel_rfl),hB,hM,⟨hmap,Upto.zero⟩⟩ ?_
  clear hR hM hB
  rintro m92 a90 w91 ⟨j,hm92,hlej,hR,hB,hM,hIj⟩
  obtain ⟨hmap,hup⟩:=hIj
  refine SX.qs [.ld []] [2,3,5,17,18,19,57,58,59,60] [(.e 60 (.bool (decide ((j:Int)<(b.ops.length:Int)))))] hR hM hB mix fun a93 w94 hR hb95 hB hM=>?_
  replace hmap:=hmap.below hb95
  refine wp_seq_k fun K96 hK96=>?_
  refine SX.cond_ (decide ((j:Int)<(b.ops.length:Int))) hR (by kernel_rfl) (fun h97=>?_) (fun h97=>?_)
  ·skip
   refine wp_skip ?_
   refine hK96 _ _ ?_
   refine wp_seq_k fun K98 hK98=>?_
   refine wp_block ?_
   refine wp_seq_k fun K99 hK99=>?_
   have hlt:j<b.ops.length:=lt_of_dec h97
   obtain ⟨y,hy⟩:=get_of_lt hlt
   obtain ⟨oby,ooy,hAy,hiy,co0y,co1y,co2y,co3y,co4y,co5y,co6y,co7y,co8y,co9y,co10y⟩:=hb0.2.1.elem hy
   subst hAy
   have hoy:oby<w.heap.size:=World.block_lt_of_cell? w _ co0y
   replace hM:=(SX.cells_add (cell_below hB co0y) (SX.cells_add (cell_below hB co1y) (SX.cells_add (cell_below hB co2y) (SX.cells_add (cell_below hB co3y) (SX.cells_add (cell_below hB co4y) (SX.cells_add (cell_below hB co5y) (SX.cells_add (cell_below hB co6y) (SX.cells_add (cell_below hB co7y) (SX.cells_add (cell_below hB co8y) (SX.cells_add (cell_below hB co9y) (SX.cells_add (cell_below hB co10y) hM)))))))))))
   refine SX.region_l ?_
   refine SX.list_q (κ:=[]) 0 3 [.ld [],.ix ⟨oby,ooy+j*11,none⟩,.ld [0,1,2,3,4,5,6,7,8,9,10]] [2,3,5,17,18,19,57,58,59,61,63] [(.e 2 (.P n5)),(.e 3 (.P n9)),(.e 5 (.P n27)),(.e 17 (.slice (some ⟨oby,ooy,none⟩) b.ops.length j1)),(.e 18 (.I (b.ops.length:Int))),(.e 19 (.I (b.ops.length:Int))),(.e 57 (.slice (some ⟨oby,ooy,none⟩) b.ops.length j1)),(.e 58 (.I (b.ops.length:Int))),(.e 59 (.I (j:Int))),(.e 61 (.I (j:Int))),(.e 63 (.agg #[.I y.kind,.I y.dst,.I y.a,.I y.b,.I y.n,.I y.ctx,.I y.var,.I y.piece,.I y.sk,.I y.sv,.I y.sa]))] [([],⟨oby,ooy,none⟩,b.ops.length,(j:Int),11,⟨oby,ooy+j*11,none⟩)] [] [] [] hR hM (by kernel_rfl) (by kernel_rfl) ⟨fun hg=>SX.ix_ok (by omega),trivial⟩ trivial (fun w' hb' hM'=>trivial) (fun w' hb' hM'=>trivial) ?_
   clear hR hM; intro a100 w101 hR hb102 hM
   replace hB:=hB.tr hb102
   replace hmap:=hmap.below hb102
   obtain ⟨n106,hn106⟩:∃ n,w101.heap.size=n:=⟨_,rfl⟩
   have hzn106:w.heap.size≤n106:=by have:=hB.size; omega
   have qn17n106:n17<n106:=by have:=hmap.lt; omega
   refine SX.list_alloc 3 n106 [(.I 0),(.I 0),(.I 0),(.I 0),(.I 0),(.I 0),(.I 0),(.I 0),(.I 0),(.I 0),(.I 0)] 74 ((.e 11 (.P n106))::[(.e 2 (.P n5)),(.e 3 (.P n9)),(.e 5 (.P n27)),(.e 17 (.slice (some ⟨oby,ooy,none⟩) b.ops.length j1)),(.e 18 (.I (b.ops.length:Int))),(.e 19 (.I (b.ops.length:Int))),(.e 57 (.slice (some ⟨oby,ooy,none⟩) b.ops.length j1)),(.e 58 (.I (b.ops.length:Int))),(.e 59 (.I (j:Int))),(.e 61 (.I (j:Int))),(.e 63 (.agg #[.I y.kind,.I y.dst,.I y.a,.I y.b,.I y.n,.I y.ctx,.I y.var,.I y.piece,.I y.sk,.I y.sv,.I y.sa]))]) hR hM hn106 (by kernel_rfl) ?_
   clear hR hM; intro a103 w104 hR hb105 hM hkn106 hln106 hnen106
   replace hB:=hB.tr hb105
   replace hmap:=hmap.below hb105
   replace hR:SX.RSt 99 [] [(.e 2 (.P n5)),(.e 3 (.P n9)),(.e 5 (.P n27)),(.e 11 (.P n106)),(.e 17 (.slice (some ⟨oby,ooy,none⟩) b.ops.length j1)),(.e 18 (.I (b.ops.length:Int))),(.e 19 (.I (b.ops.length:Int))),(.e 57 (.slice (some ⟨oby,ooy,none⟩) b.ops.length j1)),(.e 58 (.I (b.ops.length:Int))),(.e 59 (.I (j:Int))),(.e 61 (.I (j:Int))),(.e 63 (.agg #[.I y.kind,.I y.dst,.I y.a,.I y.b,.I y.n,.I y.ctx,.I y.var,.I y.piece,.I y.sk,.I y.sv,.I y.sa]))] a103:=hR.keep (ts:=[2,3,5,11,17,18,19,57,58,59,61,63]) (by kernel_rfl)
   refine SX.list_q0 (κ:=[]) 4 1 [.ld []] [2,3,5,10,11,17,18,19,57,58,59,63] [(.e 2 (.P n5)),(.e 3 (.P n9)),(.e 5 (.P n27)),(.e 10 (.I (j:Int))),(.e 11 (.P n106)),(.e 17 (.slice (some ⟨oby,ooy,none⟩) b.ops.length j1)),(.e 18 (.I (b.ops.length:Int))),(.e 19 (.I (b.ops.length:Int))),(.e 57 (.slice (some ⟨oby,ooy,none⟩) b.ops.length j1)),(.e 58 (.I (b.ops.length:Int))),(.e 59 (.I (j:Int))),(.e 63 (.agg #[.I y.kind,.I y.dst,.I y.a,.I y.b,.I y.n,.I y.ctx,.I y.var,.I y.piece,.I y.sk,.I y.sv,.I y.sa]))] hR hM (by kernel_rfl) (by kernel_rfl) ?_
   clear hR hM; intro a107 w108 hR hb109 hM
   replace hB:=hB.tr hb109
   replace hmap:=hmap.below hb109
   replace hkn106:=SX.blk_below hkn106 hb109
   refine SX.list_store 5 [(0,(.I y.kind)),(1,(.I y.dst)),(2,(.I y.a)),(3,(.I y.b)),(4,(.I y.n)),(5,(.I y.ctx)),(6,(.I y.var)),(7,(.I y.piece)),(8,(.I y.sk)),(9,(.I y.sv)),(10,(.I y.sa))] [(.I y.kind),(.I y.dst),(.I y.a),(.I y.b),(.I y.n),(.I y.ctx),(.I y.var),(.I y.piece),(.I y.sk),(.I y.sv),(.I y.sa)] [(⟨oby,ooy+j*11,none⟩,(.I y.kind)),(⟨oby,ooy+j*11+1,none⟩,(.I y.dst)),(⟨oby,ooy+j*11+2,none⟩,(.I y.a)),(⟨oby,ooy+j*11+3,none⟩,(.I y.b)),(⟨oby,ooy+j*11+4,none⟩,(.I y.n)),(⟨oby,ooy+j*11+5,none⟩,(.I y.ctx)),(⟨oby,ooy+j*11+6,none⟩,(.I y.var)),(⟨oby,ooy+j*11+7,none⟩,(.I y.piece)),(⟨oby,ooy+j*11+8,none⟩,(.I y.sk)),(⟨oby,ooy+j*11+9,none⟩,(.I y.sv)),(⟨oby,ooy+j*11+10,none⟩,(.I y.sa)),(⟨n27,0,none⟩,(.I b.params)),(⟨n27,1,none⟩,(.map (some n17))),(⟨n9,0,none⟩,(.I b.params)),(⟨n9,1,none⟩,(.slice (some ⟨oby,ooy,none⟩) b.ops.length j1)),(⟨n9,2,none⟩,(.I b.term.kind)),(⟨n9,3,none⟩,(.I b.term.a)),(⟨n9,4,none⟩,(.I b.term.n)),(⟨n9,5,none⟩,(.slice B2 b.term.args.length j2)),(⟨n9,6,none⟩,(.I b.term.b0)),(⟨n9,7,none⟩,(.slice B3 b.term.args0.length j3)),(⟨n9,8,none⟩,(.I b.term.b1)),(⟨n9,9,none⟩,(.slice B4 b.term.args1.length j4)),(⟨n5,0,none⟩,(.I c.params)),(⟨n5,1,none⟩,(.slice A1 c.blocks.length k1)),(⟨n5,2,none⟩,(.slice A2 c.contexts.length k2)),(⟨n5,3,none⟩,(.slice A3 c.objects.length k3))] [(⟨n106,0,none⟩,(.I y.kind)),(⟨n106,1,none⟩,(.I y.dst)),(⟨n106,2,none⟩,(.I y.a)),(⟨n106,3,none⟩,(.I y.b)),(⟨n106,4,none⟩,(.I y.n)),(⟨n106,5,none⟩,(.I y.ctx)),(⟨n106,6,none⟩,(.I y.var)),(⟨n106,7,none⟩,(.I y.piece)),(⟨n106,8,none⟩,(.I y.sk)),(⟨n106,9,none⟩,(.I y.sv)),(⟨n106,10,none⟩,(.I y.sa)),(⟨oby,ooy+j*11,none⟩,(.I y.kind)),(⟨oby,ooy+j*11+1,none⟩,(.I y.dst)),(⟨oby,ooy+j*11+2,none⟩,(.I y.a)),(⟨oby,ooy+j*11+3,none⟩,(.I y.b)),(⟨oby,ooy+j*11+4,none⟩,(.I y.n)),(⟨oby,ooy+j*11+5,none⟩,(.I y.ctx)),(⟨oby,ooy+j*11+6,none⟩,(.I y.var)),(⟨oby,ooy+j*11+7,none⟩,(.I y.piece)),(⟨oby,ooy+j*11+8,none⟩,(.I y.sk)),(⟨oby,ooy+j*11+9,none⟩,(.I y.sv)),(⟨oby,ooy+j*11+10,none⟩,(.I y.sa)),(⟨n27,0,none⟩,(.I b.params)),(⟨n27,1,none⟩,(.map (some n17))),(⟨n9,0,none⟩,(.I b.params)),(⟨n9,1,none⟩,(.slice (some ⟨oby,ooy,none⟩) b.ops.length j1)),(⟨n9,2,none⟩,(.I b.term.kind)),(⟨n9,3,none⟩,(.I b.term.a)),(⟨n9,4,none⟩,(.I b.term.n)),(⟨n9,5,none⟩,(.slice B2 b.term.args.length j2)),(⟨n9,6,none⟩,(.I b.term.b0)),(⟨n9,7,none⟩,(.slice B3 b.term.args0.length j3)),(⟨n9,8,none⟩,(.I b.term.b1)),(⟨n9,9,none⟩,(.slice B4 b.term.args1.length j4)),(⟨n5,0,none⟩,(.I c.params)),(⟨n5,1,none⟩,(.slice A1 c.blocks.length k1)),(⟨n5,2,none⟩,(.slice A2 c.contexts.length k2)),(⟨n5,3,none⟩,(.slice A3 c.objects.length k3))] hR (SX.cells_sub hM [0,1,2,3,4,5,6,7,8,9,10,11,12,13,14,15,16,17,18,19,20,21,22,23,24,25,26] (by kernel_rfl)) hnen106 hkn106 (by kernel_rfl) (by kernel_rfl) (by kernel_rfl) ?_
   clear hR hM hkn106; intro a110 w111 hR hb112 hM hkn106
   replace hB:=hB.trans (hb112.below (by omega))
   replace hmap:=hmap.but hb112 (by omega)
   refine SX.list_end 6 (by kernel_rfl) ?_
   refine hK99 _ _ ?_
   refine SX.qf [(3,(!(P.clean y))),(11,((!(P.clean y))||(!(rightOpD c b.params (dk b.ops b.ops.length) y (j:Int))))),(15,(y.kind==21))] [.ld [0,1,2,3,4,5,6,7,8,9,10],.cl (.bool (P.clean y)),.ld [],.ld [],.ld [34,35,36,37],.ld [22,23],.ld [0,1,2,3,4,5,6,7,8,9,10],.ld [],.cl (.bool (rightOpD c b.params (dk b.ops b.ops.length) y (j:Int))),.ld [],.pk,.ld [],.ld [],.ld [0],.ld [],.ld [],.ld [34,35,36,37],.ld [22,23],.ld [0,1,2,3,4,5,6,7,8,9,10],.ld [],.ld [25],.ld [],.cl (.bool (rightBindD c b.params (dk b.ops b.ops.length) y (b.ops.length:Int))),.ld [],.pk,.pk] [2,3,5,17,18,19,57,58,59,89] [(.e 89 (.bool (((!(P.clean y))||(!(rightOpD c b.params (dk b.ops b.ops.length) y (j:Int))))||((y.kind==21)&&(!(rightBindD c b.params (dk b.ops b.ops.length) y (b.ops.length:Int)))))))] [] [] [([],127,#[(.agg #[.I y.kind,.I y.dst,.I y.a,.I y.b,.I y.n,.I y.ctx,.I y.var,.I y.piece,.I y.sk,.I y.sv,.I y.sa])],(.bool (P.clean y))),([(3,false)],128,#[(.agg #[.I c.params,.slice A1 c.blocks.length k1,.slice A2 c.contexts.length k2,.slice A3 c.objects.length k3]),(.agg #[.I b.params,.map (some n17)]),(.agg #[.I y.kind,.I y.dst,.I y.a,.I y.b,.I y.n,.I y.ctx,.I y.var,.I y.piece,.I y.sk,.I y.sv,.I y.sa]),(.I (j:Int))],(.bool (rightOpD c b.params (dk b.ops b.ops.length) y (j:Int)))),([(15,true),(11,false)],129,#[(.agg #[.I c.params,.slice A1 c.blocks.length k1,.slice A2 c.contexts.length k2,.slice A3 c.objects.length k3]),(.agg #[.I b.params,.map (some n17)]),(.agg #[.I y.kind,.I y.dst,.I y.a,.I y.b,.I y.n,.I y.ctx,.I y.var,.I y.piece,.I y.sk,.I y.sv,.I y.sa]),(.I (b.ops.length:Int))],(.bool (rightBindD c b.params (dk b.ops b.ops.length) y (b.ops.length:Int))))] [] hR hM hB mix trivial trivial (fun w' hb' hM'=>trivial) (fun w' hb' hM'=>⟨fun hg=>clean_any y _,fun hg=>rightOp_any c _ _ _ _ (h0.below (hB.tr hb')) y _ _ _ _ hbp (hmap.below hb'),fun hg=>rightBind_any c _ _ _ _ (h0.below (hB.tr hb')) y _ hcp _ _ _ hbp (hmap.below hb'),trivial⟩) fun a113 w114 hR hb115 hB hM=>?_
   replace hmap:=hmap.below hb115
   replace hkn106:=SX.blk_below hkn106 hb115
   refine SX.cond_ (((!(P.clean y))||(!(rightOpD c b.params (dk b.ops b.ops.length) y (j:Int))))||((y.kind==21)&&(!(rightBindD c b.params (dk b.ops b.ops.length) y (b.ops.length:Int))))) hR (by kernel_rfl) (fun h116=>?_) (fun h116=>?_)
   ·skip
    refine SX.qs [.ld []] [2,3,4,5,17,18,19,57,58,59] [(.e 4 (.bool false))] hR hM hB mix fun a117 w118 hR hb119 hB hM=>?_
    replace hmap:=hmap.below hb119
    replace hkn106:=SX.blk_below hkn106 hb119
    refine wp_ret ?_
    try simp only [Exit.then,Exit.inBlock,Nat.reduceEqDiff,↓reduceIte]
    refine SX.ret_ 4 (.bool false) Try.results85 hR (by kernel_rfl) ?_
    clear hR hM mix hK1 hzn5 hb4 hkn5 hln5 hn5 hzn9 qn5n9 hb8 hkn9 hln9 hn9 hb12 hK13 hb16 qn5n17 qn9n17 hb20 hn17 hzn17 hb23 hzn27 qn5n27 qn9n27 qn17n27 hb26 hkn27 hln27 hn27 hnen27 hb30 hK31 hb34 hm37 hb40 hK41 hK86 hb89 hm92 hb95 hK96 hK98 hK99 hb102 hzn106 qn17n106 hb105 hkn106 hln106 hn106 hnen106 hb109 hb112 hb115 hb119
    refine ⟨ret_bool ?_,hB⟩
    rw [rightBlock_eq]
    have hq:opAt c b j y=false:=by have:=h116; rw [rightOpD_eq,rightBindD_eq] at this; unfold opAt; cases h1:P.clean y <;> cases h2:P.rightOp c b y j <;> cases h3:(y.kind==21) <;> cases h4:P.rightBind c b y b.ops.length <;> simp_all
    rw [← allAt_no hy hq,← hdefs]; rfl
   ·skip
    refine wp_skip ?_
    refine hK98 _ _ ?_
    refine SX.qf0 [] [.nm (.I ((j+1:Nat):Int)),.ld []] [2,3,5,17,18,19,57,58,59] [(.e 59 (.I ((j+1:Nat):Int)))] [] [] [] [([],(.I (IntKind.i64.wrap ((j:Int)+1))),(.I ((j+1:Nat):Int)))] hR hM hB mix trivial ⟨fun hg=>SX.wrap_ok (by omega),trivial⟩ (fun w' hb' hM'=>trivial) (fun w' hb' hM'=>trivial) fun a120 w121 hR hb122 hB hM=>?_
    replace hmap:=hmap.below hb122
    replace hkn106:=SX.blk_below hkn106 hb122
    exact ⟨b.ops.length-(j+1),by omega,j+1,rfl,by omega,hR.keep (ts:=[2,3,5,17,18,19,57,58,59]) (by kernel_rfl),hB,SX.cells_sub hM [22,23,24,25,26,27,28,29,30,31,32,33,34,35,36,37] (by kernel_rfl),⟨hmap,hup.step hy (by have:=h116; rw [rightOpD_eq,rightBindD_eq] at this; unfold opAt; cases h1:P.clean y <;> cases h2:P.rightOp c b y j <;> cases h3:(y.kind==21) <;> cases h4:P.rightBind c b y b.ops.length <;> simp_all)⟩⟩
  ·skip
   refine wp_exit ?_
   refine hK86 _ _ ?_
   refine SX.qf [] [.ld [12,13,14,15],.ld [0,1],.ld [],.ld [4,5,6,7,8,9,10,11],.ld [],.ld [3],.ld [],.cl (.bool (rightTermH c (fun x=>hasD b.params (dk b.ops b.ops.length) x (b.ops.length:Int)) b.term)),.ld []] [2,3,4,5,17,18,19,57,58,59] [(.e 4 (.bool (rightTermH c (fun x=>hasD b.params (dk b.ops b.ops.length) x (b.ops.length:Int)) b.term)))] [] [] [([],130,#[(.agg #[.I c.params,.slice A1 c.blocks.length k1,.slice A2 c.contexts.length k2,.slice A3 c.objects.length k3]),(.agg #[.I b.params,.map (some n17)]),(.agg #[.I b.term.kind,.I b.term.a,.I b.term.n,.slice B2 b.term.args.length j2,.I b.term.b0,.slice B3 b.term.args0.length j3,.I b.term.b1,.slice B4 b.term.args1.length j4]),(.I (b.ops.length:Int))],(.bool (rightTermH c (fun x=>hasD b.params (dk b.ops b.ops.length) x (b.ops.length:Int)) b.term)))] [] hR hM hB mix trivial trivial (fun w' hb' hM'=>trivial) (fun w' hb' hM'=>⟨fun hg=>rightTerm_any c _ _ _ _ (h0.below (hB.tr hb')) b.term _ _ _ (hb0.2.2.1.below (hB.tr hb')) (hb0.2.2.2.1.below (hB.tr hb')) (hb0.2.2.2.2.below (hB.tr hb')) _ _ _ _ hbp (hmap.below hb'),trivial⟩) fun a123 w124 hR hb125 hB hM=>?_
   replace hmap:=hmap.below hb125
   refine wp_ret ?_
   try simp only [Exit.then,Exit.inBlock,Nat.reduceEqDiff,↓reduceIte]
   refine SX.ret_ 4 (.bool (rightTermH c (fun x=>hasD b.params (dk b.ops b.ops.length) x (b.ops.length:Int)) b.term)) Try.results85 hR (by kernel_rfl) ?_
   clear hR hM mix hK1 hzn5 hb4 hkn5 hln5 hn5 hzn9 qn5n9 hb8 hkn9 hln9 hn9 hb12 hK13 hb16 qn5n17 qn9n17 hb20 hn17 hzn17 hb23 hzn27 qn5n27 qn9n27 qn17n27 hb26 hkn27 hln27 hn27 hnen27 hb30 hK31 hb34 hm37 hb40 hK41 hK86 hb89 hm92 hb95 hK96 hb125
   refine ⟨ret_bool ?_,hB⟩
   rw [rightBlock_eq]
   rw [rightTermH_eq,← hdefs,← hup.allAt (le_of_dec h97)]; simp
end Go.Proofs.Ytlkcidmmpeebeaa
