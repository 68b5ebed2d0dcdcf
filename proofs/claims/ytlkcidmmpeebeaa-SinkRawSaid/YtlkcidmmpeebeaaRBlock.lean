/- Proved: rightBlock -/
import Derived.Test.YtlkcidmmpeebeaaDefs
set_option linter.unusedVariables false
set_option linter.unusedSimpArgs false
namespace Go.Proofs.Ytlkcidmmpeebeaa
open Go.RowKit
set_option maxRecDepth 100000
set_option maxHeartbeats 2000000 in
theorem rightBlock_any (c:CodeD) (v1 v2 v3:Value) (w:World) (h:CodeAt w v1 v2 v3 c) (b:BlockD) (u1 u2 u3 u4:Value) (hb:BlkAt w u1 u2 u3 u4 b) (hcp:0≤c.params) (hbp:0≤b.params∧b.params≤999):Calls Try.prog 85 #[(.agg #[.I c.params,v1,v2,v3]),(.agg #[.I b.params,u1,.I b.term.kind,.I b.term.a,.I b.term.n,u2,.I b.term.b0,u3,.I b.term.b1,u4])] w fun e w'=>e=.returned (.bool (P.rightBlock c b))∧Below w.heap.size w w':=by
 have h0:=h
 obtain ⟨A1,k1,rfl,s1⟩:=h.2.1.shape
 obtain ⟨A2,k2,rfl,s2⟩:=h.2.2.1.shape
 obtain ⟨A3,k3,rfl,s3⟩:=h.2.2.2.shape
 unfold Shape at s1 s2 s3
 have hb0:=hb
 obtain ⟨B1,j1,rfl,t1⟩:=hb.2.1.shape
 obtain ⟨B2,j2,rfl,t2⟩:=hb.2.2.1.shape
 obtain ⟨B3,j3,rfl,t3⟩:=hb.2.2.2.1.shape
 obtain ⟨B4,j4,rfl,t4⟩:=hb.2.2.2.2.shape
 unfold Shape at t1 t2 t3 t4
 have mix:=mixed
 have hB:Below w.heap.size w w:=Below.refl _ _
 have hM:SX.Cells w []:=SX.cells_nil
 refine SX.enter [(.agg #[.I c.params,.slice A1 c.blocks.length k1,.slice A2 c.contexts.length k2,.slice A3 c.objects.length k3]),(.agg #[.I b.params,.slice B1 b.ops.length j1,.I b.term.kind,.I b.term.a,.I b.term.n,.slice B2 b.term.args.length j2,.I b.term.b0,.slice B3 b.term.args0.length j3,.I b.term.b1,.slice B4 b.term.args1.length j4])] 99 Try.func85 rfl rfl (by kernel_rfl) ?_
 intro a hR
 refine wp_seq_k fun K1 hK1=>?_
 refine SX.region_l ?_
 obtain ⟨n5,hn5⟩:∃ n,w.heap.size=n:=⟨_,rfl⟩
 have hzn5:w.heap.size≤n5:=by have:=hB.size; omega
 refine SX.list_box 0 n5 [(.I c.params),(.slice A1 c.blocks.length k1),(.slice A2 c.contexts.length k2),(.slice A3 c.objects.length k3)] 26 ((.e 2 (.P n5))::[(.e 0 (.agg #[.I c.params,.slice A1 c.blocks.length k1,.slice A2 c.contexts.length k2,.slice A3 c.objects.length k3])),(.e 1 (.agg #[.I b.params,.slice B1 b.ops.length j1,.I b.term.kind,.I b.term.a,.I b.term.n,.slice B2 b.term.args.length j2,.I b.term.b0,.slice B3 b.term.args0.length j3,.I b.term.b1,.slice B4 b.term.args1.length j4]))]) [(⟨n5,0,none⟩,(.I c.params)),(⟨n5,1,none⟩,(.slice A1 c.blocks.length k1)),(⟨n5,2,none⟩,(.slice A2 c.contexts.length k2)),(⟨n5,3,none⟩,(.slice A3 c.objects.length k3))] hR hM hn5 (by kernel_rfl) (by kernel_rfl) ?_
 clear hR hM; intro a2 w3 hR hb4 hM hkn5 hln5
 replace hB:=hB.tr hb4
 replace hR:SX.RSt 99 [] [(.e 1 (.agg #[.I b.params,.slice B1 b.ops.length j1,.I b.term.kind,.I b.term.a,.I b.term.n,.slice B2 b.term.args.length j2,.I b.term.b0,.slice B3 b.term.args0.length j3,.I b.term.b1,.slice B4 b.term.args1.length j4])),(.e 2 (.P n5))] a2:=hR.keep (ts:=[1,2]) (by kernel_rfl)
 obtain ⟨n9,hn9⟩:∃ n,w3.heap.size=n:=⟨_,rfl⟩
 have hzn9:w.heap.size≤n9:=by have:=hB.size; omega
 have qn5n9:n5<n9:=by have:=(Array.getElem?_eq_some_iff.1 hkn5).1; omega
 refine SX.list_box 1 n9 [(.I b.params),(.slice B1 b.ops.length j1),(.I b.term.kind),(.I b.term.a),(.I b.term.n),(.slice B2 b.term.args.length j2),(.I b.term.b0),(.slice B3 b.term.args0.length j3),(.I b.term.b1),(.slice B4 b.term.args1.length j4)] 62 ((.e 3 (.P n9))::[(.e 1 (.agg #[.I b.params,.slice B1 b.ops.length j1,.I b.term.kind,.I b.term.a,.I b.term.n,.slice B2 b.term.args.length j2,.I b.term.b0,.slice B3 b.term.args0.length j3,.I b.term.b1,.slice B4 b.term.args1.length j4])),(.e 2 (.P n5))]) [(⟨n9,0,none⟩,(.I b.params)),(⟨n9,1,none⟩,(.slice B1 b.ops.length j1)),(⟨n9,2,none⟩,(.I b.term.kind)),(⟨n9,3,none⟩,(.I b.term.a)),(⟨n9,4,none⟩,(.I b.term.n)),(⟨n9,5,none⟩,(.slice B2 b.term.args.length j2)),(⟨n9,6,none⟩,(.I b.term.b0)),(⟨n9,7,none⟩,(.slice B3 b.term.args0.length j3)),(⟨n9,8,none⟩,(.I b.term.b1)),(⟨n9,9,none⟩,(.slice B4 b.term.args1.length j4)),(⟨n5,0,none⟩,(.I c.params)),(⟨n5,1,none⟩,(.slice A1 c.blocks.length k1)),(⟨n5,2,none⟩,(.slice A2 c.contexts.length k2)),(⟨n5,3,none⟩,(.slice A3 c.objects.length k3))] hR hM hn9 (by kernel_rfl) (by kernel_rfl) ?_
 clear hR hM; intro a6 w7 hR hb8 hM hkn9 hln9
 replace hB:=hB.tr hb8
 replace hkn5:=SX.blk_below hkn5 hb8
 replace hR:SX.RSt 99 [] [(.e 2 (.P n5)),(.e 3 (.P n9))] a6:=hR.keep (ts:=[2,3]) (by kernel_rfl)
 refine SX.list_q0 (κ:=[]) 2 1 [.ld []] [2,3] [(.e 2 (.P n5)),(.e 3 (.P n9))] hR hM (by kernel_rfl) (by kernel_rfl) ?_
 clear hR hM; intro a10 w11 hR hb12 hM
 replace hB:=hB.tr hb12
 replace hkn5:=SX.blk_below hkn5 hb12
 replace hkn9:=SX.blk_below hkn9 hb12
 refine SX.list_end 3 (by kernel_rfl) ?_
 refine hK1 _ _ ?_
 refine wp_seq_k fun K13 hK13=>?_
 refine SX.region_l ?_
 refine SX.list_q0 (κ:=[]) 0 2 [.ld [],.ld [0]] [2,3,13] [(.e 2 (.P n5)),(.e 3 (.P n9)),(.e 13 (.I b.params))] hR hM (by kernel_rfl) (by kernel_rfl) ?_
 clear hR hM; intro a14 w15 hR hb16 hM
 replace hB:=hB.tr hb16
 replace hkn5:=SX.blk_below hkn5 hb16
 replace hkn9:=SX.blk_below hkn9 hb16
 obtain ⟨n17,hn17⟩:∃ n,w15.heap.size=n:=⟨_,rfl⟩
 have hzn17:w.heap.size≤n17:=by have:=hB.size; omega
 have qn5n17:n5<n17:=by have:=(Array.getElem?_eq_some_iff.1 hkn5).1; omega
 have qn9n17:n9<n17:=by have:=(Array.getElem?_eq_some_iff.1 hkn9).1; omega
 refine SX.list_new 2 n17 (.map #[] 0) ((.e 14 (.map (some n17)))::[(.e 2 (.P n5)),(.e 3 (.P n9)),(.e 13 (.I b.params))]) hR hn17 (by kernel_rfl) ?_
 clear hR; intro a18 hR
 obtain ⟨w19,hw19⟩:∃ w2,w2=w15.alloc (.map #[] 0):=⟨_,rfl⟩
 rw [← hw19]
 have hb20:Below w15.heap.size w15 w19:=by rw [hw19]; exact (Below.refl _ _).alloc (Nat.le_refl _) _
 have hmap:MapI w19 n17 []:=by rw [hw19]; exact MapI.new hn17
 clear hw19; replace hM:=hM.below hb20
 replace hB:=hB.tr hb20
 replace hkn5:=SX.blk_below hkn5 hb20
 replace hkn9:=SX.blk_below hkn9 hb20
 replace hR:SX.RSt 99 [] [(.e 2 (.P n5)),(.e 3 (.P n9)),(.e 13 (.I b.params)),(.e 14 (.map (some n17)))] a18:=hR.keep (ts:=[2,3,13,14]) (by kernel_rfl)
 refine SX.list_q0 (κ:=[]) 3 1 [.ld []] [2,3,15] [(.e 2 (.P n5)),(.e 3 (.P n9)),(.e 15 (.agg #[.I b.params,.map (some n17)]))] hR hM (by kernel_rfl) (by kernel_rfl) ?_
 clear hR hM; intro a21 w22 hR hb23 hM
 replace hB:=hB.tr hb23
 replace hmap:=hmap.below hb23
 replace hkn5:=SX.blk_below hkn5 hb23
 replace hkn9:=SX.blk_below hkn9 hb23
 obtain ⟨n27,hn27⟩:∃ n,w22.heap.size=n:=⟨_,rfl⟩
 have hzn27:w.heap.size≤n27:=by have:=hB.size; omega
 have qn5n27:n5<n27:=by have:=(Array.getElem?_eq_some_iff.1 hkn5).1; omega
 have qn9n27:n9<n27:=by have:=(Array.getElem?_eq_some_iff.1 hkn9).1; omega
 have qn17n27:n17<n27:=by have:=hmap.lt; omega
 refine SX.list_alloc 4 n27 [(.I 0),(.map none)] 183 ((.e 5 (.P n27))::[(.e 2 (.P n5)),(.e 3 (.P n9)),(.e 15 (.agg #[.I b.params,.map (some n17)]))]) hR hM hn27 (by kernel_rfl) ?_
 clear hR hM; intro a24 w25 hR hb26 hM hkn27 hln27 hnen27
 replace hB:=hB.tr hb26
 replace hmap:=hmap.below hb26
 replace hkn5:=SX.blk_below hkn5 hb26
 replace hkn9:=SX.blk_below hkn9 hb26
 replace hR:SX.RSt 99 [] [(.e 2 (.P n5)),(.e 3 (.P n9)),(.e 5 (.P n27)),(.e 15 (.agg #[.I b.params,.map (some n17)]))] a24:=hR.keep (ts:=[2,3,5,15]) (by kernel_rfl)
 refine SX.list_store 5 [(0,(.I b.params)),(1,(.map (some n17)))] [(.I b.params),(.map (some n17))] [(⟨n9,0,none⟩,(.I b.params)),(⟨n9,1,none⟩,(.slice B1 b.ops.length j1)),(⟨n9,2,none⟩,(.I b.term.kind)),(⟨n9,3,none⟩,(.I b.term.a)),(⟨n9,4,none⟩,(.I b.term.n)),(⟨n9,5,none⟩,(.slice B2 b.term.args.length j2)),(⟨n9,6,none⟩,(.I b.term.b0)),(⟨n9,7,none⟩,(.slice B3 b.term.args0.length j3)),(⟨n9,8,none⟩,(.I b.term.b1)),(⟨n9,9,none⟩,(.slice B4 b.term.args1.length j4)),(⟨n5,0,none⟩,(.I c.params)),(⟨n5,1,none⟩,(.slice A1 c.blocks.length k1)),(⟨n5,2,none⟩,(.slice A2 c.contexts.length k2)),(⟨n5,3,none⟩,(.slice A3 c.objects.length k3))] [(⟨n27,0,none⟩,(.I b.params)),(⟨n27,1,none⟩,(.map (some n17))),(⟨n9,0,none⟩,(.I b.params)),(⟨n9,1,none⟩,(.slice B1 b.ops.length j1)),(⟨n9,2,none⟩,(.I b.term.kind)),(⟨n9,3,none⟩,(.I b.term.a)),(⟨n9,4,none⟩,(.I b.term.n)),(⟨n9,5,none⟩,(.slice B2 b.term.args.length j2)),(⟨n9,6,none⟩,(.I b.term.b0)),(⟨n9,7,none⟩,(.slice B3 b.term.args0.length j3)),(⟨n9,8,none⟩,(.I b.term.b1)),(⟨n9,9,none⟩,(.slice B4 b.term.args1.length j4)),(⟨n5,0,none⟩,(.I c.params)),(⟨n5,1,none⟩,(.slice A1 c.blocks.length k1)),(⟨n5,2,none⟩,(.slice A2 c.contexts.length k2)),(⟨n5,3,none⟩,(.slice A3 c.objects.length k3))] hR (SX.cells_sub hM [0,1,2,3,4,5,6,7,8,9,10,11,12,13] (by kernel_rfl)) hnen27 hkn27 (by kernel_rfl) (by kernel_rfl) (by kernel_rfl) ?_
 clear hR hM hkn27; intro a28 w29 hR hb30 hM hkn27
 replace hB:=hB.trans (hb30.below (by omega))
 replace hmap:=hmap.but hb30 (by omega)
 replace hkn5:=(hb30.block _ (by omega)).trans hkn5
 replace hkn9:=(hb30.block _ (by omega)).trans hkn9
 refine SX.list_end 6 (by kernel_rfl) ?_
 refine hK13 _ _ ?_
 refine wp_seq_k fun K31 hK31=>?_
 refine wp_seq_k fun K32 hK32=>?_
 refine SX.region_q0 [.ld [],.ld [3],.ld [],.ld []] [2,3,5,17,18,19] [(.e 2 (.P n5)),(.e 3 (.P n9)),(.e 5 (.P n27)),(.e 17 (.slice B1 b.ops.length j1)),(.e 18 (.I ((b.ops.length:Nat):Int))),(.e 19 (.I 0))] hR hM mix (by kernel_rfl) (by kernel_rfl) (by kernel_rfl) (by kernel_rfl) ?_
 clear hR hM; intro a33 w34 hR hb35 hM
 replace hB:=hB.tr hb35
 replace hmap:=hmap.below hb35
 replace hkn5:=SX.blk_below hkn5 hb35
 replace hkn9:=SX.blk_below hkn9 hb35
 replace hkn27:=SX.blk_below hkn27 hb35
 refine hK32 _ _ ?_
 refine wp_block ?_
 refine wp_loop_ghost (fun m38 a' w'=>∃ k:Nat,m38=b.ops.length-k∧k≤b.ops.length∧SX.RSt 99 [] [(.e 2 (.P n5)),(.e 3 (.P n9)),(.e 5 (.P n27)),(.e 17 (.slice B1 b.ops.length j1)),(.e 18 (.I ((b.ops.length:Nat):Int))),(.e 19 (.I ((k:Nat):Int)))] a'∧Below w.heap.size w w'∧SX.Cells w' [(⟨n27,0,none⟩,(.I b.params)),(⟨n27,1,none⟩,(.map (some n17))),(⟨n9,0,none⟩,(.I b.params)),(⟨n9,1,none⟩,(.slice B1 b.ops.length j1)),(⟨n9,2,none⟩,(.I b.term.kind)),(⟨n9,3,none⟩,(.I b.term.a)),(⟨n9,4,none⟩,(.I b.term.n)),(⟨n9,5,none⟩,(.slice B2 b.term.args.length j2)),(⟨n9,6,none⟩,(.I b.term.b0)),(⟨n9,7,none⟩,(.slice B3 b.term.args0.length j3)),(⟨n9,8,none⟩,(.I b.term.b1)),(⟨n9,9,none⟩,(.slice B4 b.term.args1.length j4)),(⟨n5,0,none⟩,(.I c.params)),(⟨n5,1,none⟩,(.slice A1 c.blocks.length k1)),(⟨n5,2,none⟩,(.slice A2 c.contexts.length k2)),(⟨n5,3,none⟩,(.slice A3 c.objects.length k3))]∧(MapI w' n17 (dk b.ops (k))∧Upto b.ops (okDef b.params b.ops) (k))) (b.ops.length-0) ⟨0,rfl,Nat.zero_le _,hR.keep (ts:=[2,3,5,17,18,19]) (by kernel_rfl),hB,hM,⟨hmap,Upto.zero⟩⟩ ?_
 clear hR hM hB
 rintro m38 a36 w37 ⟨k,hm38,hlek,hR,hB,hM,hIk⟩
 obtain ⟨hmap,hup⟩:=hIk
 refine wp_seq_k fun K39 hK39=>?_
 refine SX.region_q0 [.ld []] [2,3,5,17,18,19,20] [(.e 2 (.P n5)),(.e 3 (.P n9)),(.e 5 (.P n27)),(.e 17 (.slice B1 b.ops.length j1)),(.e 18 (.I ((b.ops.length:Nat):Int))),(.e 19 (.I ((k:Nat):Int))),(.e 20 (.bool (decide (((k:Nat):Int)<((b.ops.length:Nat):Int)))))] hR hM mix (by kernel_rfl) (by kernel_rfl) (by kernel_rfl) (by kernel_rfl) ?_
 clear hR hM; intro a40 w41 hR hb42 hM
 replace hB:=hB.tr hb42
 replace hmap:=hmap.below hb42
 refine hK39 _ _ ?_
 refine wp_seq_k fun K43 hK43=>?_
 refine SX.cond_ (decide (((k:Nat):Int)<((b.ops.length:Nat):Int))) hR (by kernel_rfl) (fun h44=>?_) (fun h44=>?_)
 ·skip
  refine wp_skip ?_
  refine hK43 _ _ ?_
  refine wp_seq_k fun K45 hK45=>?_
  refine wp_block ?_
  refine wp_seq_k fun K46 hK46=>?_
  have hlt:k<b.ops.length:=lt_of_dec h44
  obtain ⟨y,hy⟩:=get_of_lt hlt
  obtain ⟨oby,ooy,hAy,hiy,co0y,co1y,co2y,co3y,co4y,co5y,co6y,co7y,co8y,co9y,co10y⟩:=hb0.2.1.elem hy
  subst hAy
  have hoy:oby<w.heap.size:=World.block_lt_of_cell? w _ co0y
  replace hM:=(SX.cells_add (cell_below hB co0y) (SX.cells_add (cell_below hB co1y) (SX.cells_add (cell_below hB co2y) (SX.cells_add (cell_below hB co3y) (SX.cells_add (cell_below hB co4y) (SX.cells_add (cell_below hB co5y) (SX.cells_add (cell_below hB co6y) (SX.cells_add (cell_below hB co7y) (SX.cells_add (cell_below hB co8y) (SX.cells_add (cell_below hB co9y) (SX.cells_add (cell_below hB co10y) hM)))))))))))
  refine SX.region_l ?_
  refine SX.list_q (κ:=[]) 0 3 [.ld [],.ix ⟨oby,ooy+k*11,none⟩,.ld [0,1,2,3,4,5,6,7,8,9,10]] [2,3,5,17,18,19,21,23] [(.e 2 (.P n5)),(.e 3 (.P n9)),(.e 5 (.P n27)),(.e 17 (.slice (some ⟨oby,ooy,none⟩) b.ops.length j1)),(.e 18 (.I ((b.ops.length:Nat):Int))),(.e 19 (.I ((k:Nat):Int))),(.e 21 (.I ((k:Nat):Int))),(.e 23 (.agg #[.I y.kind,.I y.dst,.I y.a,.I y.b,.I y.n,.I y.ctx,.I y.var,.I y.piece,.I y.sk,.I y.sv,.I y.sa]))] [([],⟨oby,ooy,none⟩,b.ops.length,((k:Nat):Int),11,⟨oby,ooy+k*11,none⟩)] [] [] [] hR hM (by kernel_rfl) (by kernel_rfl) ⟨fun hg=>SX.ix_ok (by omega),trivial⟩ trivial (fun w' hb' hM'=>trivial) (fun w' hb' hM'=>trivial) ?_
  clear hR hM; intro a47 w48 hR hb49 hM
  replace hB:=hB.tr hb49
  replace hmap:=hmap.below hb49
  obtain ⟨n53,hn53⟩:∃ n,w48.heap.size=n:=⟨_,rfl⟩
  have hzn53:w.heap.size≤n53:=by have:=hB.size; omega
  have qn17n53:n17<n53:=by have:=hmap.lt; omega
  refine SX.list_alloc 3 n53 [(.I 0),(.I 0),(.I 0),(.I 0),(.I 0),(.I 0),(.I 0),(.I 0),(.I 0),(.I 0),(.I 0)] 74 ((.e 7 (.P n53))::[(.e 2 (.P n5)),(.e 3 (.P n9)),(.e 5 (.P n27)),(.e 17 (.slice (some ⟨oby,ooy,none⟩) b.ops.length j1)),(.e 18 (.I ((b.ops.length:Nat):Int))),(.e 19 (.I ((k:Nat):Int))),(.e 21 (.I ((k:Nat):Int))),(.e 23 (.agg #[.I y.kind,.I y.dst,.I y.a,.I y.b,.I y.n,.I y.ctx,.I y.var,.I y.piece,.I y.sk,.I y.sv,.I y.sa]))]) hR hM hn53 (by kernel_rfl) ?_
  clear hR hM; intro a50 w51 hR hb52 hM hkn53 hln53 hnen53
  replace hB:=hB.tr hb52
  replace hmap:=hmap.below hb52
  replace hR:SX.RSt 99 [] [(.e 2 (.P n5)),(.e 3 (.P n9)),(.e 5 (.P n27)),(.e 7 (.P n53)),(.e 17 (.slice (some ⟨oby,ooy,none⟩) b.ops.length j1)),(.e 18 (.I ((b.ops.length:Nat):Int))),(.e 19 (.I ((k:Nat):Int))),(.e 21 (.I ((k:Nat):Int))),(.e 23 (.agg #[.I y.kind,.I y.dst,.I y.a,.I y.b,.I y.n,.I y.ctx,.I y.var,.I y.piece,.I y.sk,.I y.sv,.I y.sa]))] a50:=hR.keep (ts:=[2,3,5,7,17,18,19,21,23]) (by kernel_rfl)
  refine SX.list_q0 (κ:=[]) 4 1 [.ld []] [2,3,5,6,7,17,18,19,23] [(.e 2 (.P n5)),(.e 3 (.P n9)),(.e 5 (.P n27)),(.e 6 (.I ((k:Nat):Int))),(.e 7 (.P n53)),(.e 17 (.slice (some ⟨oby,ooy,none⟩) b.ops.length j1)),(.e 18 (.I ((b.ops.length:Nat):Int))),(.e 19 (.I ((k:Nat):Int))),(.e 23 (.agg #[.I y.kind,.I y.dst,.I y.a,.I y.b,.I y.n,.I y.ctx,.I y.var,.I y.piece,.I y.sk,.I y.sv,.I y.sa]))] hR hM (by kernel_rfl) (by kernel_rfl) ?_
  clear hR hM; intro a54 w55 hR hb56 hM
  replace hB:=hB.tr hb56
  replace hmap:=hmap.below hb56
  replace hkn53:=SX.blk_below hkn53 hb56
  refine SX.list_store 5 [(0,(.I y.kind)),(1,(.I y.dst)),(2,(.I y.a)),(3,(.I y.b)),(4,(.I y.n)),(5,(.I y.ctx)),(6,(.I y.var)),(7,(.I y.piece)),(8,(.I y.sk)),(9,(.I y.sv)),(10,(.I y.sa))] [(.I y.kind),(.I y.dst),(.I y.a),(.I y.b),(.I y.n),(.I y.ctx),(.I y.var),(.I y.piece),(.I y.sk),(.I y.sv),(.I y.sa)] [(⟨oby,ooy+k*11,none⟩,(.I y.kind)),(⟨oby,ooy+k*11+1,none⟩,(.I y.dst)),(⟨oby,ooy+k*11+2,none⟩,(.I y.a)),(⟨oby,ooy+k*11+3,none⟩,(.I y.b)),(⟨oby,ooy+k*11+4,none⟩,(.I y.n)),(⟨oby,ooy+k*11+5,none⟩,(.I y.ctx)),(⟨oby,ooy+k*11+6,none⟩,(.I y.var)),(⟨oby,ooy+k*11+7,none⟩,(.I y.piece)),(⟨oby,ooy+k*11+8,none⟩,(.I y.sk)),(⟨oby,ooy+k*11+9,none⟩,(.I y.sv)),(⟨oby,ooy+k*11+10,none⟩,(.I y.sa)),(⟨n27,0,none⟩,(.I b.params)),(⟨n27,1,none⟩,(.map (some n17))),(⟨n9,0,none⟩,(.I b.params)),(⟨n9,1,none⟩,(.slice (some ⟨oby,ooy,none⟩) b.ops.length j1)),(⟨n9,2,none⟩,(.I b.term.kind)),(⟨n9,3,none⟩,(.I b.term.a)),(⟨n9,4,none⟩,(.I b.term.n)),(⟨n9,5,none⟩,(.slice B2 b.term.args.length j2)),(⟨n9,6,none⟩,(.I b.term.b0)),(⟨n9,7,none⟩,(.slice B3 b.term.args0.length j3)),(⟨n9,8,none⟩,(.I b.term.b1)),(⟨n9,9,none⟩,(.slice B4 b.term.args1.length j4)),(⟨n5,0,none⟩,(.I c.params)),(⟨n5,1,none⟩,(.slice A1 c.blocks.length k1)),(⟨n5,2,none⟩,(.slice A2 c.contexts.length k2)),(⟨n5,3,none⟩,(.slice A3 c.objects.length k3))] [(⟨n53,0,none⟩,(.I y.kind)),(⟨n53,1,none⟩,(.I y.dst)),(⟨n53,2,none⟩,(.I y.a)),(⟨n53,3,none⟩,(.I y.b)),(⟨n53,4,none⟩,(.I y.n)),(⟨n53,5,none⟩,(.I y.ctx)),(⟨n53,6,none⟩,(.I y.var)),(⟨n53,7,none⟩,(.I y.piece)),(⟨n53,8,none⟩,(.I y.sk)),(⟨n53,9,none⟩,(.I y.sv)),(⟨n53,10,none⟩,(.I y.sa)),(⟨oby,ooy+k*11,none⟩,(.I y.kind)),(⟨oby,ooy+k*11+1,none⟩,(.I y.dst)),(⟨oby,ooy+k*11+2,none⟩,(.I y.a)),(⟨oby,ooy+k*11+3,none⟩,(.I y.b)),(⟨oby,ooy+k*11+4,none⟩,(.I y.n)),(⟨oby,ooy+k*11+5,none⟩,(.I y.ctx)),(⟨oby,ooy+k*11+6,none⟩,(.I y.var)),(⟨oby,ooy+k*11+7,none⟩,(.I y.piece)),(⟨oby,ooy+k*11+8,none⟩,(.I y.sk)),(⟨oby,ooy+k*11+9,none⟩,(.I y.sv)),(⟨oby,ooy+k*11+10,none⟩,(.I y.sa)),(⟨n27,0,none⟩,(.I b.params)),(⟨n27,1,none⟩,(.map (some n17))),(⟨n9,0,none⟩,(.I b.params)),(⟨n9,1,none⟩,(.slice (some ⟨oby,ooy,none⟩) b.ops.length j1)),(⟨n9,2,none⟩,(.I b.term.kind)),(⟨n9,3,none⟩,(.I b.term.a)),(⟨n9,4,none⟩,(.I b.term.n)),(⟨n9,5,none⟩,(.slice B2 b.term.args.length j2)),(⟨n9,6,none⟩,(.I b.term.b0)),(⟨n9,7,none⟩,(.slice B3 b.term.args0.length j3)),(⟨n9,8,none⟩,(.I b.term.b1)),(⟨n9,9,none⟩,(.slice B4 b.term.args1.length j4)),(⟨n5,0,none⟩,(.I c.params)),(⟨n5,1,none⟩,(.slice A1 c.blocks.length k1)),(⟨n5,2,none⟩,(.slice A2 c.contexts.length k2)),(⟨n5,3,none⟩,(.slice A3 c.objects.length k3))] hR (SX.cells_sub hM [0,1,2,3,4,5,6,7,8,9,10,11,12,13,14,15,16,17,18,19,20,21,22,23,24,25,26] (by kernel_rfl)) hnen53 hkn53 (by kernel_rfl) (by kernel_rfl) (by kernel_rfl) ?_
  clear hR hM hkn53; intro a57 w58 hR hb59 hM hkn53
  replace hB:=hB.trans (hb59.below (by omega))
  replace hmap:=hmap.but hb59 (by omega)
  refine SX.list_end 6 (by kernel_rfl) ?_
  refine hK46 _ _ ?_
  refine wp_seq_k fun K60 hK60=>?_
  refine wp_seq_k fun K61 hK61=>?_
  refine SX.region_q [] [.ld [],.ld [0],.cl (.I (fieldsN y.kind)),.ld [],.ld []] [2,3,5,6,7,17,18,19,28] [(.e 2 (.P n5)),(.e 3 (.P n9)),(.e 5 (.P n27)),(.e 6 (.I ((k:Nat):Int))),(.e 7 (.P n53)),(.e 17 (.slice (some ⟨oby,ooy,none⟩) b.ops.length j1)),(.e 18 (.I ((b.ops.length:Nat):Int))),(.e 19 (.I ((k:Nat):Int))),(.e 28 (.bool ((andI (fieldsN y.kind) 1)==0)))] [] [] [([],126,#[(.I y.kind)],(.I (fieldsN y.kind)))] [] hR hM mix (by kernel_rfl) (by kernel_rfl) (by kernel_rfl) (by kernel_rfl) trivial trivial (fun w' hb' hM'=>trivial) (fun w' hb' hM'=>⟨fun hg=>SX.pureC (fields_any _ _),trivial⟩) ?_
  clear hR hM; intro a62 w63 hR hb64 hM
  replace hB:=hB.tr hb64
  replace hmap:=hmap.below hb64
  replace hkn53:=SX.blk_below hkn53 hb64
  refine hK61 _ _ ?_
  refine SX.cond_ ((andI (fieldsN y.kind) 1)==0) hR (by kernel_rfl) (fun h65=>?_) (fun h65=>?_)
  ·skip
   refine wp_exit ?_
   refine hK45 _ _ ?_
   refine SX.region_q [] [.nm (.I ((k+1:Nat):Int)),.ld []] [2,3,5,17,18,19] [(.e 2 (.P n5)),(.e 3 (.P n9)),(.e 5 (.P n27)),(.e 17 (.slice (some ⟨oby,ooy,none⟩) b.ops.length j1)),(.e 18 (.I ((b.ops.length:Nat):Int))),(.e 19 (.I ((k+1:Nat):Int)))] [] [] [] [([],(.I (IntKind.i64.wrap (((k:Nat):Int)+1))),(.I ((k+1:Nat):Int)))] hR hM mix (by kernel_rfl) (by kernel_rfl) (by kernel_rfl) (by kernel_rfl) trivial ⟨fun hg=>SX.wrap_ok (by omega),trivial⟩ (fun w' hb' hM'=>trivial) (fun w' hb' hM'=>trivial) ?_
   clear hR hM; intro a66 w67 hR hb68 hM
   replace hB:=hB.tr hb68
   replace hmap:=hmap.below hb68
   replace hkn53:=SX.blk_below hkn53 hb68
   exact ⟨b.ops.length-(k+1),by omega,k+1,rfl,by omega,hR.keep (ts:=[2,3,5,17,18,19]) (by kernel_rfl),hB,SX.cells_sub hM [22,23,24,25,26,27,28,29,30,31,32,33,34,35,36,37] (by kernel_rfl),⟨by rw [dk_no hy (show P.fDst y.kind=false from by have:=h65; rw [f_dst] at this; simpa using this)]; exact hmap,hup.step hy (by unfold okDef; rw [(show P.fDst y.kind=false from by have:=h65; rw [f_dst] at this; simpa using this)]; rfl)⟩⟩
  ·skip
   refine wp_skip ?_
   refine hK60 _ _ ?_
   refine wp_seq_k fun K69 hK69=>?_
   refine wp_seq_k fun K70 hK70=>?_
   refine SX.region_q [] [.ld [],.ld [23],.ld [],.ld [1],.hd (.tuple #[.I ((findD (dk b.ops k) y.dst).getD 0),.bool ((findD (dk b.ops k) y.dst).isSome)]),.ld [],.ld [],.ld [],.ld [],.ld []] [2,3,5,6,7,9,17,18,19] [(.e 2 (.P n5)),(.e 3 (.P n9)),(.e 5 (.P n27)),(.e 6 (.I ((k:Nat):Int))),(.e 7 (.P n53)),(.e 9 (.bool ((findD (dk b.ops k) y.dst).isSome))),(.e 17 (.slice (some ⟨oby,ooy,none⟩) b.ops.length j1)),(.e 18 (.I ((b.ops.length:Nat):Int))),(.e 19 (.I ((k:Nat):Int)))] [] [([],lookS 139 (.map (some n17)) (.I y.dst) true,(.tuple #[.I ((findD (dk b.ops k) y.dst).getD 0),.bool ((findD (dk b.ops k) y.dst).isSome)]))] [] [] hR hM mix (by kernel_rfl) (by kernel_rfl) (by kernel_rfl) (by kernel_rfl) trivial trivial (fun w' hb' hM'=>⟨fun hg=>lookS_run (hmap.below hb') y.dst,trivial⟩) (fun w' hb' hM'=>trivial) ?_
   clear hR hM; intro a71 w72 hR hb73 hM
   replace hB:=hB.tr hb73
   replace hmap:=hmap.below hb73
   replace hkn53:=SX.blk_below hkn53 hb73
   refine hK70 _ _ ?_
   refine wp_seq_k fun K74 hK74=>?_
   refine SX.region_q [(1,(findD (dk b.ops k) y.dst).isSome),(8,((findD (dk b.ops k) y.dst).isSome||decide (y.dst<b.params)))] [.ld [],.ld [],.ld [],.ld [1],.ld [],.ld [24],.ld [],.pk,.ld [],.ld [],.ld [1],.ld [],.pk] [2,3,5,6,7,17,18,19,49] [(.e 2 (.P n5)),(.e 3 (.P n9)),(.e 5 (.P n27)),(.e 6 (.I ((k:Nat):Int))),(.e 7 (.P n53)),(.e 17 (.slice (some ⟨oby,ooy,none⟩) b.ops.length j1)),(.e 18 (.I ((b.ops.length:Nat):Int))),(.e 19 (.I ((k:Nat):Int))),(.e 49 (.bool (((findD (dk b.ops k) y.dst).isSome||decide (y.dst<b.params))||decide (9999<y.dst))))] [] [] [] [] hR hM mix (by kernel_rfl) (by kernel_rfl) (by kernel_rfl) (by kernel_rfl) trivial trivial (fun w' hb' hM'=>trivial) (fun w' hb' hM'=>trivial) ?_
   clear hR hM; intro a75 w76 hR hb77 hM
   replace hB:=hB.tr hb77
   replace hmap:=hmap.below hb77
   replace hkn53:=SX.blk_below hkn53 hb77
   refine hK74 _ _ ?_
   refine SX.cond_ (((findD (dk b.ops k) y.dst).isSome||decide (y.dst<b.params))||decide (9999<y.dst)) hR (by kernel_rfl) (fun h78=>?_) (fun h78=>?_)
   ·skip
    refine wp_seq_k fun K79 hK79=>?_
    refine SX.region_q0 [.ld []] [2,3,4,5,17,18,19] [(.e 2 (.P n5)),(.e 3 (.P n9)),(.e 4 (.bool false)),(.e 5 (.P n27)),(.e 17 (.slice (some ⟨oby,ooy,none⟩) b.ops.length j1)),(.e 18 (.I ((b.ops.length:Nat):Int))),(.e 19 (.I ((k:Nat):Int)))] hR hM mix (by kernel_rfl) (by kernel_rfl) (by kernel_rfl) (by kernel_rfl) ?_
    clear hR hM; intro a80 w81 hR hb82 hM
    replace hB:=hB.tr hb82
    replace hmap:=hmap.below hb82
    replace hkn53:=SX.blk_below hkn53 hb82
    refine hK79 _ _ ?_
    refine wp_ret ?_
    try simp only [Exit.then,Exit.inBlock,Nat.reduceEqDiff,↓reduceIte]
    refine SX.ret_ 4 (.bool false) Try.results85 hR (by kernel_rfl) ?_
    clear hR hM mix hK1 hzn5 hb4 hkn5 hln5 hn5 hzn9 qn5n9 hb8 hkn9 hln9 hn9 hb12 hK13 hb16 qn5n17 qn9n17 hb20 hn17 hzn17 hb23 hzn27 qn5n27 qn9n27 qn17n27 hb26 hkn27 hln27 hn27 hnen27 hb30 hK31 hK32 hb35 hm38 hK39 hb42 hK43 hK45 hK46 hb49 hzn53 qn17n53 hb52 hkn53 hln53 hn53 hnen53 hb56 hb59 hK60 hK61 hb64 hK69 hK70 hb73 hK74 hb77 hK79 hb82
    refine ⟨ret_bool ?_,hB⟩
    rw [rightBlock_eq]
    rw [← allAt_no hy (by unfold okDef; rw [show P.fDst y.kind=true from by have:=h65; rw [f_dst] at this; simpa using this,h78]; rfl)]; rfl
   ·skip
    refine wp_skip ?_
    refine hK69 _ _ ?_
    refine SX.region_l ?_
    refine SX.list_q0 (κ:=[]) 0 5 [.ld [],.ld [23],.ld [],.ld [1],.ld []] [2,3,5,17,18,19,51,53,54] [(.e 2 (.P n5)),(.e 3 (.P n9)),(.e 5 (.P n27)),(.e 17 (.slice (some ⟨oby,ooy,none⟩) b.ops.length j1)),(.e 18 (.I ((b.ops.length:Nat):Int))),(.e 19 (.I ((k:Nat):Int))),(.e 51 (.map (some n17))),(.e 53 (.I y.dst)),(.e 54 (.I ((k:Nat):Int)))] hR hM (by kernel_rfl) (by kernel_rfl) ?_
    clear hR hM; intro a83 w84 hR hb85 hM
    replace hB:=hB.tr hb85
    replace hmap:=hmap.below hb85
    replace hkn53:=SX.blk_below hkn53 hb85
    obtain ⟨w87,hrunw87,hb88,hneww87⟩:=updI_run hmap y.dst ((k:Nat):Int) (by have:=h78; simp only [Bool.or_eq_false_iff] at this; simpa using this.1.1)
    refine SX.list_skip 5 (updS 139 (.map (some n17)) (.I y.dst) (.I ((k:Nat):Int))) hR (by kernel_rfl) hrunw87 ?_
    clear hR hrunw87 hmap; intro a86 hR; have hmap:=hneww87; clear hneww87
    replace hB:=hB.trans (hb88.below (by omega))
    have hqn53n17:n53≠n17:=by omega
    have hqobyn17:oby≠n17:=by omega
    have hqn27n17:n27≠n17:=by omega
    have hqn9n17:n9≠n17:=by omega
    have hqn5n17:n5≠n17:=by omega
    replace hM:=SX.cells_but hM hb88 (SX.ne_cons hqn53n17 (SX.ne_cons hqn53n17 (SX.ne_cons hqn53n17 (SX.ne_cons hqn53n17 (SX.ne_cons hqn53n17 (SX.ne_cons hqn53n17 (SX.ne_cons hqn53n17 (SX.ne_cons hqn53n17 (SX.ne_cons hqn53n17 (SX.ne_cons hqn53n17 (SX.ne_cons hqn53n17 (SX.ne_cons hqobyn17 (SX.ne_cons hqobyn17 (SX.ne_cons hqobyn17 (SX.ne_cons hqobyn17 (SX.ne_cons hqobyn17 (SX.ne_cons hqobyn17 (SX.ne_cons hqobyn17 (SX.ne_cons hqobyn17 (SX.ne_cons hqobyn17 (SX.ne_cons hqobyn17 (SX.ne_cons hqobyn17 (SX.ne_cons hqn27n17 (SX.ne_cons hqn27n17 (SX.ne_cons hqn9n17 (SX.ne_cons hqn9n17 (SX.ne_cons hqn9n17 (SX.ne_cons hqn9n17 (SX.ne_cons hqn9n17 (SX.ne_cons hqn9n17 (SX.ne_cons hqn9n17 (SX.ne_cons hqn9n17 (SX.ne_cons hqn9n17 (SX.ne_cons hqn9n17 (SX.ne_cons hqn5n17 (SX.ne_cons hqn5n17 (SX.ne_cons hqn5n17 (SX.ne_cons hqn5n17 SX.ne_nil))))))))))))))))))))))))))))))))))))))
    replace hkn53:=(hb88.block _ (by omega)).trans hkn53
    refine SX.list_end 6 (by kernel_rfl) ?_
    refine hK45 _ _ ?_
    refine SX.region_q [] [.nm (.I ((k+1:Nat):Int)),.ld []] [2,3,5,17,18,19] [(.e 2 (.P n5)),(.e 3 (.P n9)),(.e 5 (.P n27)),(.e 17 (.slice (some ⟨oby,ooy,none⟩) b.ops.length j1)),(.e 18 (.I ((b.ops.length:Nat):Int))),(.e 19 (.I ((k+1:Nat):Int)))] [] [] [] [([],(.I (IntKind.i64.wrap (((k:Nat):Int)+1))),(.I ((k+1:Nat):Int)))] hR hM mix (by kernel_rfl) (by kernel_rfl) (by kernel_rfl) (by kernel_rfl) trivial ⟨fun hg=>SX.wrap_ok (by omega),trivial⟩ (fun w' hb' hM'=>trivial) (fun w' hb' hM'=>trivial) ?_
    clear hR hM; intro a89 w90 hR hb91 hM
    replace hB:=hB.tr hb91
    replace hmap:=hmap.below hb91
    replace hkn53:=SX.blk_below hkn53 hb91
    exact ⟨b.ops.length-(k+1),by omega,k+1,rfl,by omega,hR.keep (ts:=[2,3,5,17,18,19]) (by kernel_rfl),hB,SX.cells_sub hM [22,23,24,25,26,27,28,29,30,31,32,33,34,35,36,37] (by kernel_rfl),⟨by rw [dk_yes hy (show P.fDst y.kind=true from by have:=h65; rw [f_dst] at this; simpa using this)]; exact hmap,hup.step hy (by unfold okDef; rw [(show P.fDst y.kind=true from by have:=h65; rw [f_dst] at this; simpa using this),h78]; rfl)⟩⟩
 ·skip
  refine wp_exit ?_
  refine hK31 _ _ ?_
  refine wp_seq_k fun K92 hK92=>?_
  refine wp_seq_k fun K93 hK93=>?_
  obtain rfl:k=b.ops.length:=by have:=le_of_dec h44; omega
  have hdefs:=hup.allAt (Nat.le_refl _); clear hup
  refine SX.region_q0 [.ld [],.ld [3],.ld [],.ld []] [2,3,5,17,18,19,57,58,59] [(.e 2 (.P n5)),(.e 3 (.P n9)),(.e 5 (.P n27)),(.e 17 (.slice B1 b.ops.length j1)),(.e 18 (.I ((b.ops.length:Nat):Int))),(.e 19 (.I ((b.ops.length:Nat):Int))),(.e 57 (.slice B1 b.ops.length j1)),(.e 58 (.I ((b.ops.length:Nat):Int))),(.e 59 (.I 0))] hR hM mix (by kernel_rfl) (by kernel_rfl) (by kernel_rfl) (by kernel_rfl) ?_
  clear hR hM; intro a94 w95 hR hb96 hM
  replace hB:=hB.tr hb96
  replace hmap:=hmap.below hb96
  refine hK93 _ _ ?_
  refine wp_block ?_
  refine wp_loop_ghost (fun m99 a' w'=>∃ j:Nat,m99=b.ops.length-j∧j≤b.ops.length∧SX.RSt 99 [] [(.e 2 (.P n5)),(.e 3 (.P n9)),(.e 5 (.P n27)),(.e 17 (.slice B1 b.ops.length j1)),(.e 18 (.I ((b.ops.length:Nat):Int))),(.e 19 (.I ((b.ops.length:Nat):Int))),(.e 57 (.slice B1 b.ops.length j1)),(.e 58 (.I ((b.ops.length:Nat):Int))),(.e 59 (.I ((j:Nat):Int)))] a'∧Below w.heap.size w w'∧SX.Cells w' [(⟨n27,0,none⟩,(.I b.params)),(⟨n27,1,none⟩,(.map (some n17))),(⟨n9,0,none⟩,(.I b.params)),(⟨n9,1,none⟩,(.slice B1 b.ops.length j1)),(⟨n9,2,none⟩,(.I b.term.kind)),(⟨n9,3,none⟩,(.I b.term.a)),(⟨n9,4,none⟩,(.I b.term.n)),(⟨n9,5,none⟩,(.slice B2 b.term.args.length j2)),(⟨n9,6,none⟩,(.I b.term.b0)),(⟨n9,7,none⟩,(.slice B3 b.term.args0.length j3)),(⟨n9,8,none⟩,(.I b.term.b1)),(⟨n9,9,none⟩,(.slice B4 b.term.args1.length j4)),(⟨n5,0,none⟩,(.I c.params)),(⟨n5,1,none⟩,(.slice A1 c.blocks.length k1)),(⟨n5,2,none⟩,(.slice A2 c.contexts.length k2)),(⟨n5,3,none⟩,(.slice A3 c.objects.length k3))]∧(MapI w' n17 (dk b.ops b.ops.length)∧Upto b.ops (opAt c b) (j))) (b.ops.length-0) ⟨0,rfl,Nat.zero_le _,hR.keep (ts:=[2,3,5,17,18,19,57,58,59]) (by kernel_rfl),hB,hM,⟨hmap,Upto.zero⟩⟩ ?_
  clear hR hM hB
  rintro m99 a97 w98 ⟨j,hm99,hlej,hR,hB,hM,hIj⟩
  obtain ⟨hmap,hup⟩:=hIj
  refine wp_seq_k fun K100 hK100=>?_
  refine SX.region_q0 [.ld []] [2,3,5,17,18,19,57,58,59,60] [(.e 2 (.P n5)),(.e 3 (.P n9)),(.e 5 (.P n27)),(.e 17 (.slice B1 b.ops.length j1)),(.e 18 (.I ((b.ops.length:Nat):Int))),(.e 19 (.I ((b.ops.length:Nat):Int))),(.e 57 (.slice B1 b.ops.length j1)),(.e 58 (.I ((b.ops.length:Nat):Int))),(.e 59 (.I ((j:Nat):Int))),(.e 60 (.bool (decide (((j:Nat):Int)<((b.ops.length:Nat):Int)))))] hR hM mix (by kernel_rfl) (by kernel_rfl) (by kernel_rfl) (by kernel_rfl) ?_
  clear hR hM; intro a101 w102 hR hb103 hM
  replace hB:=hB.tr hb103
  replace hmap:=hmap.below hb103
  refine hK100 _ _ ?_
  refine wp_seq_k fun K104 hK104=>?_
  refine SX.cond_ (decide (((j:Nat):Int)<((b.ops.length:Nat):Int))) hR (by kernel_rfl) (fun h105=>?_) (fun h105=>?_)
  ·skip
   refine wp_skip ?_
   refine hK104 _ _ ?_
   refine wp_seq_k fun K106 hK106=>?_
   refine wp_block ?_
   refine wp_seq_k fun K107 hK107=>?_
   have hlt:j<b.ops.length:=lt_of_dec h105
   obtain ⟨y,hy⟩:=get_of_lt hlt
   obtain ⟨oby,ooy,hAy,hiy,co0y,co1y,co2y,co3y,co4y,co5y,co6y,co7y,co8y,co9y,co10y⟩:=hb0.2.1.elem hy
   subst hAy
   have hoy:oby<w.heap.size:=World.block_lt_of_cell? w _ co0y
   replace hM:=(SX.cells_add (cell_below hB co0y) (SX.cells_add (cell_below hB co1y) (SX.cells_add (cell_below hB co2y) (SX.cells_add (cell_below hB co3y) (SX.cells_add (cell_below hB co4y) (SX.cells_add (cell_below hB co5y) (SX.cells_add (cell_below hB co6y) (SX.cells_add (cell_below hB co7y) (SX.cells_add (cell_below hB co8y) (SX.cells_add (cell_below hB co9y) (SX.cells_add (cell_below hB co10y) hM)))))))))))
   refine SX.region_l ?_
   refine SX.list_q (κ:=[]) 0 3 [.ld [],.ix ⟨oby,ooy+j*11,none⟩,.ld [0,1,2,3,4,5,6,7,8,9,10]] [2,3,5,17,18,19,57,58,59,61,63] [(.e 2 (.P n5)),(.e 3 (.P n9)),(.e 5 (.P n27)),(.e 17 (.slice (some ⟨oby,ooy,none⟩) b.ops.length j1)),(.e 18 (.I ((b.ops.length:Nat):Int))),(.e 19 (.I ((b.ops.length:Nat):Int))),(.e 57 (.slice (some ⟨oby,ooy,none⟩) b.ops.length j1)),(.e 58 (.I ((b.ops.length:Nat):Int))),(.e 59 (.I ((j:Nat):Int))),(.e 61 (.I ((j:Nat):Int))),(.e 63 (.agg #[.I y.kind,.I y.dst,.I y.a,.I y.b,.I y.n,.I y.ctx,.I y.var,.I y.piece,.I y.sk,.I y.sv,.I y.sa]))] [([],⟨oby,ooy,none⟩,b.ops.length,((j:Nat):Int),11,⟨oby,ooy+j*11,none⟩)] [] [] [] hR hM (by kernel_rfl) (by kernel_rfl) ⟨fun hg=>SX.ix_ok (by omega),trivial⟩ trivial (fun w' hb' hM'=>trivial) (fun w' hb' hM'=>trivial) ?_
   clear hR hM; intro a108 w109 hR hb110 hM
   replace hB:=hB.tr hb110
   replace hmap:=hmap.below hb110
   obtain ⟨n114,hn114⟩:∃ n,w109.heap.size=n:=⟨_,rfl⟩
   have hzn114:w.heap.size≤n114:=by have:=hB.size; omega
   have qn17n114:n17<n114:=by have:=hmap.lt; omega
   refine SX.list_alloc 3 n114 [(.I 0),(.I 0),(.I 0),(.I 0),(.I 0),(.I 0),(.I 0),(.I 0),(.I 0),(.I 0),(.I 0)] 74 ((.e 11 (.P n114))::[(.e 2 (.P n5)),(.e 3 (.P n9)),(.e 5 (.P n27)),(.e 17 (.slice (some ⟨oby,ooy,none⟩) b.ops.length j1)),(.e 18 (.I ((b.ops.length:Nat):Int))),(.e 19 (.I ((b.ops.length:Nat):Int))),(.e 57 (.slice (some ⟨oby,ooy,none⟩) b.ops.length j1)),(.e 58 (.I ((b.ops.length:Nat):Int))),(.e 59 (.I ((j:Nat):Int))),(.e 61 (.I ((j:Nat):Int))),(.e 63 (.agg #[.I y.kind,.I y.dst,.I y.a,.I y.b,.I y.n,.I y.ctx,.I y.var,.I y.piece,.I y.sk,.I y.sv,.I y.sa]))]) hR hM hn114 (by kernel_rfl) ?_
   clear hR hM; intro a111 w112 hR hb113 hM hkn114 hln114 hnen114
   replace hB:=hB.tr hb113
   replace hmap:=hmap.below hb113
   replace hR:SX.RSt 99 [] [(.e 2 (.P n5)),(.e 3 (.P n9)),(.e 5 (.P n27)),(.e 11 (.P n114)),(.e 17 (.slice (some ⟨oby,ooy,none⟩) b.ops.length j1)),(.e 18 (.I ((b.ops.length:Nat):Int))),(.e 19 (.I ((b.ops.length:Nat):Int))),(.e 57 (.slice (some ⟨oby,ooy,none⟩) b.ops.length j1)),(.e 58 (.I ((b.ops.length:Nat):Int))),(.e 59 (.I ((j:Nat):Int))),(.e 61 (.I ((j:Nat):Int))),(.e 63 (.agg #[.I y.kind,.I y.dst,.I y.a,.I y.b,.I y.n,.I y.ctx,.I y.var,.I y.piece,.I y.sk,.I y.sv,.I y.sa]))] a111:=hR.keep (ts:=[2,3,5,11,17,18,19,57,58,59,61,63]) (by kernel_rfl)
   refine SX.list_q0 (κ:=[]) 4 1 [.ld []] [2,3,5,10,11,17,18,19,57,58,59,63] [(.e 2 (.P n5)),(.e 3 (.P n9)),(.e 5 (.P n27)),(.e 10 (.I ((j:Nat):Int))),(.e 11 (.P n114)),(.e 17 (.slice (some ⟨oby,ooy,none⟩) b.ops.length j1)),(.e 18 (.I ((b.ops.length:Nat):Int))),(.e 19 (.I ((b.ops.length:Nat):Int))),(.e 57 (.slice (some ⟨oby,ooy,none⟩) b.ops.length j1)),(.e 58 (.I ((b.ops.length:Nat):Int))),(.e 59 (.I ((j:Nat):Int))),(.e 63 (.agg #[.I y.kind,.I y.dst,.I y.a,.I y.b,.I y.n,.I y.ctx,.I y.var,.I y.piece,.I y.sk,.I y.sv,.I y.sa]))] hR hM (by kernel_rfl) (by kernel_rfl) ?_
   clear hR hM; intro a115 w116 hR hb117 hM
   replace hB:=hB.tr hb117
   replace hmap:=hmap.below hb117
   replace hkn114:=SX.blk_below hkn114 hb117
   refine SX.list_store 5 [(0,(.I y.kind)),(1,(.I y.dst)),(2,(.I y.a)),(3,(.I y.b)),(4,(.I y.n)),(5,(.I y.ctx)),(6,(.I y.var)),(7,(.I y.piece)),(8,(.I y.sk)),(9,(.I y.sv)),(10,(.I y.sa))] [(.I y.kind),(.I y.dst),(.I y.a),(.I y.b),(.I y.n),(.I y.ctx),(.I y.var),(.I y.piece),(.I y.sk),(.I y.sv),(.I y.sa)] [(⟨oby,ooy+j*11,none⟩,(.I y.kind)),(⟨oby,ooy+j*11+1,none⟩,(.I y.dst)),(⟨oby,ooy+j*11+2,none⟩,(.I y.a)),(⟨oby,ooy+j*11+3,none⟩,(.I y.b)),(⟨oby,ooy+j*11+4,none⟩,(.I y.n)),(⟨oby,ooy+j*11+5,none⟩,(.I y.ctx)),(⟨oby,ooy+j*11+6,none⟩,(.I y.var)),(⟨oby,ooy+j*11+7,none⟩,(.I y.piece)),(⟨oby,ooy+j*11+8,none⟩,(.I y.sk)),(⟨oby,ooy+j*11+9,none⟩,(.I y.sv)),(⟨oby,ooy+j*11+10,none⟩,(.I y.sa)),(⟨n27,0,none⟩,(.I b.params)),(⟨n27,1,none⟩,(.map (some n17))),(⟨n9,0,none⟩,(.I b.params)),(⟨n9,1,none⟩,(.slice (some ⟨oby,ooy,none⟩) b.ops.length j1)),(⟨n9,2,none⟩,(.I b.term.kind)),(⟨n9,3,none⟩,(.I b.term.a)),(⟨n9,4,none⟩,(.I b.term.n)),(⟨n9,5,none⟩,(.slice B2 b.term.args.length j2)),(⟨n9,6,none⟩,(.I b.term.b0)),(⟨n9,7,none⟩,(.slice B3 b.term.args0.length j3)),(⟨n9,8,none⟩,(.I b.term.b1)),(⟨n9,9,none⟩,(.slice B4 b.term.args1.length j4)),(⟨n5,0,none⟩,(.I c.params)),(⟨n5,1,none⟩,(.slice A1 c.blocks.length k1)),(⟨n5,2,none⟩,(.slice A2 c.contexts.length k2)),(⟨n5,3,none⟩,(.slice A3 c.objects.length k3))] [(⟨n114,0,none⟩,(.I y.kind)),(⟨n114,1,none⟩,(.I y.dst)),(⟨n114,2,none⟩,(.I y.a)),(⟨n114,3,none⟩,(.I y.b)),(⟨n114,4,none⟩,(.I y.n)),(⟨n114,5,none⟩,(.I y.ctx)),(⟨n114,6,none⟩,(.I y.var)),(⟨n114,7,none⟩,(.I y.piece)),(⟨n114,8,none⟩,(.I y.sk)),(⟨n114,9,none⟩,(.I y.sv)),(⟨n114,10,none⟩,(.I y.sa)),(⟨oby,ooy+j*11,none⟩,(.I y.kind)),(⟨oby,ooy+j*11+1,none⟩,(.I y.dst)),(⟨oby,ooy+j*11+2,none⟩,(.I y.a)),(⟨oby,ooy+j*11+3,none⟩,(.I y.b)),(⟨oby,ooy+j*11+4,none⟩,(.I y.n)),(⟨oby,ooy+j*11+5,none⟩,(.I y.ctx)),(⟨oby,ooy+j*11+6,none⟩,(.I y.var)),(⟨oby,ooy+j*11+7,none⟩,(.I y.piece)),(⟨oby,ooy+j*11+8,none⟩,(.I y.sk)),(⟨oby,ooy+j*11+9,none⟩,(.I y.sv)),(⟨oby,ooy+j*11+10,none⟩,(.I y.sa)),(⟨n27,0,none⟩,(.I b.params)),(⟨n27,1,none⟩,(.map (some n17))),(⟨n9,0,none⟩,(.I b.params)),(⟨n9,1,none⟩,(.slice (some ⟨oby,ooy,none⟩) b.ops.length j1)),(⟨n9,2,none⟩,(.I b.term.kind)),(⟨n9,3,none⟩,(.I b.term.a)),(⟨n9,4,none⟩,(.I b.term.n)),(⟨n9,5,none⟩,(.slice B2 b.term.args.length j2)),(⟨n9,6,none⟩,(.I b.term.b0)),(⟨n9,7,none⟩,(.slice B3 b.term.args0.length j3)),(⟨n9,8,none⟩,(.I b.term.b1)),(⟨n9,9,none⟩,(.slice B4 b.term.args1.length j4)),(⟨n5,0,none⟩,(.I c.params)),(⟨n5,1,none⟩,(.slice A1 c.blocks.length k1)),(⟨n5,2,none⟩,(.slice A2 c.contexts.length k2)),(⟨n5,3,none⟩,(.slice A3 c.objects.length k3))] hR (SX.cells_sub hM [0,1,2,3,4,5,6,7,8,9,10,11,12,13,14,15,16,17,18,19,20,21,22,23,24,25,26] (by kernel_rfl)) hnen114 hkn114 (by kernel_rfl) (by kernel_rfl) (by kernel_rfl) ?_
   clear hR hM hkn114; intro a118 w119 hR hb120 hM hkn114
   replace hB:=hB.trans (hb120.below (by omega))
   replace hmap:=hmap.but hb120 (by omega)
   refine SX.list_end 6 (by kernel_rfl) ?_
   refine hK107 _ _ ?_
   refine wp_seq_k fun K121 hK121=>?_
   refine SX.region_q [(3,(!(P.clean y))),(11,((!(P.clean y))||(!(rightOpD c b.params (dk b.ops b.ops.length) y ((j:Nat):Int))))),(15,(y.kind==21))] [.ld [0,1,2,3,4,5,6,7,8,9,10],.cl (.bool (P.clean y)),.ld [],.ld [],.ld [34,35,36,37],.ld [22,23],.ld [0,1,2,3,4,5,6,7,8,9,10],.ld [],.cl (.bool (rightOpD c b.params (dk b.ops b.ops.length) y ((j:Nat):Int))),.ld [],.pk,.ld [],.ld [],.ld [0],.ld [],.ld [],.ld [34,35,36,37],.ld [22,23],.ld [0,1,2,3,4,5,6,7,8,9,10],.ld [],.ld [25],.ld [],.cl (.bool (rightBindD c b.params (dk b.ops b.ops.length) y ((b.ops.length:Nat):Int))),.ld [],.pk,.pk] [2,3,5,17,18,19,57,58,59,89] [(.e 2 (.P n5)),(.e 3 (.P n9)),(.e 5 (.P n27)),(.e 17 (.slice (some ⟨oby,ooy,none⟩) b.ops.length j1)),(.e 18 (.I ((b.ops.length:Nat):Int))),(.e 19 (.I ((b.ops.length:Nat):Int))),(.e 57 (.slice (some ⟨oby,ooy,none⟩) b.ops.length j1)),(.e 58 (.I ((b.ops.length:Nat):Int))),(.e 59 (.I ((j:Nat):Int))),(.e 89 (.bool (((!(P.clean y))||(!(rightOpD c b.params (dk b.ops b.ops.length) y ((j:Nat):Int))))||((y.kind==21)&&(!(rightBindD c b.params (dk b.ops b.ops.length) y ((b.ops.length:Nat):Int)))))))] [] [] [([],127,#[(.agg #[.I y.kind,.I y.dst,.I y.a,.I y.b,.I y.n,.I y.ctx,.I y.var,.I y.piece,.I y.sk,.I y.sv,.I y.sa])],(.bool (P.clean y))),([(3,false)],128,#[(.agg #[.I c.params,.slice A1 c.blocks.length k1,.slice A2 c.contexts.length k2,.slice A3 c.objects.length k3]),(.agg #[.I b.params,.map (some n17)]),(.agg #[.I y.kind,.I y.dst,.I y.a,.I y.b,.I y.n,.I y.ctx,.I y.var,.I y.piece,.I y.sk,.I y.sv,.I y.sa]),(.I ((j:Nat):Int))],(.bool (rightOpD c b.params (dk b.ops b.ops.length) y ((j:Nat):Int)))),([(15,true),(11,false)],129,#[(.agg #[.I c.params,.slice A1 c.blocks.length k1,.slice A2 c.contexts.length k2,.slice A3 c.objects.length k3]),(.agg #[.I b.params,.map (some n17)]),(.agg #[.I y.kind,.I y.dst,.I y.a,.I y.b,.I y.n,.I y.ctx,.I y.var,.I y.piece,.I y.sk,.I y.sv,.I y.sa]),(.I ((b.ops.length:Nat):Int))],(.bool (rightBindD c b.params (dk b.ops b.ops.length) y ((b.ops.length:Nat):Int))))] [] hR hM mix (by kernel_rfl) (by kernel_rfl) (by kernel_rfl) (by kernel_rfl) trivial trivial (fun w' hb' hM'=>trivial) (fun w' hb' hM'=>⟨fun hg=>clean_any y _,fun hg=>rightOp_any c _ _ _ _ (h0.below (hB.tr hb')) y _ _ _ _ hbp (hmap.below hb'),fun hg=>rightBind_any c _ _ _ _ (h0.below (hB.tr hb')) y _ hcp _ _ _ hbp (hmap.below hb'),trivial⟩) ?_
   clear hR hM; intro a122 w123 hR hb124 hM
   replace hB:=hB.tr hb124
   replace hmap:=hmap.below hb124
   replace hkn114:=SX.blk_below hkn114 hb124
   refine hK121 _ _ ?_
   refine SX.cond_ (((!(P.clean y))||(!(rightOpD c b.params (dk b.ops b.ops.length) y ((j:Nat):Int))))||((y.kind==21)&&(!(rightBindD c b.params (dk b.ops b.ops.length) y ((b.ops.length:Nat):Int))))) hR (by kernel_rfl) (fun h125=>?_) (fun h125=>?_)
   ·skip
    refine wp_seq_k fun K126 hK126=>?_
    refine SX.region_q0 [.ld []] [2,3,4,5,17,18,19,57,58,59] [(.e 2 (.P n5)),(.e 3 (.P n9)),(.e 4 (.bool false)),(.e 5 (.P n27)),(.e 17 (.slice (some ⟨oby,ooy,none⟩) b.ops.length j1)),(.e 18 (.I ((b.ops.length:Nat):Int))),(.e 19 (.I ((b.ops.length:Nat):Int))),(.e 57 (.slice (some ⟨oby,ooy,none⟩) b.ops.length j1)),(.e 58 (.I ((b.ops.length:Nat):Int))),(.e 59 (.I ((j:Nat):Int)))] hR hM mix (by kernel_rfl) (by kernel_rfl) (by kernel_rfl) (by kernel_rfl) ?_
    clear hR hM; intro a127 w128 hR hb129 hM
    replace hB:=hB.tr hb129
    replace hmap:=hmap.below hb129
    replace hkn114:=SX.blk_below hkn114 hb129
    refine hK126 _ _ ?_
    refine wp_ret ?_
    try simp only [Exit.then,Exit.inBlock,Nat.reduceEqDiff,↓reduceIte]
    refine SX.ret_ 4 (.bool false) Try.results85 hR (by kernel_rfl) ?_
    clear hR hM mix hK1 hzn5 hb4 hkn5 hln5 hn5 hzn9 qn5n9 hb8 hkn9 hln9 hn9 hb12 hK13 hb16 qn5n17 qn9n17 hb20 hn17 hzn17 hb23 hzn27 qn5n27 qn9n27 qn17n27 hb26 hkn27 hln27 hn27 hnen27 hb30 hK31 hK32 hb35 hm38 hK39 hb42 hK43 hK92 hK93 hb96 hm99 hK100 hb103 hK104 hK106 hK107 hb110 hzn114 qn17n114 hb113 hkn114 hln114 hn114 hnen114 hb117 hb120 hK121 hb124 hK126 hb129
    refine ⟨ret_bool ?_,hB⟩
    rw [rightBlock_eq]
    have hq:opAt c b j y=false:=by have:=h125; rw [rightOpD_eq,rightBindD_eq] at this; unfold opAt; cases h1:P.clean y <;> cases h2:P.rightOp c b y j <;> cases h3:(y.kind==21) <;> cases h4:P.rightBind c b y b.ops.length <;> simp_all
    rw [← allAt_no hy hq,← hdefs]; rfl
   ·skip
    refine wp_skip ?_
    refine hK106 _ _ ?_
    refine SX.region_q [] [.nm (.I ((j+1:Nat):Int)),.ld []] [2,3,5,17,18,19,57,58,59] [(.e 2 (.P n5)),(.e 3 (.P n9)),(.e 5 (.P n27)),(.e 17 (.slice (some ⟨oby,ooy,none⟩) b.ops.length j1)),(.e 18 (.I ((b.ops.length:Nat):Int))),(.e 19 (.I ((b.ops.length:Nat):Int))),(.e 57 (.slice (some ⟨oby,ooy,none⟩) b.ops.length j1)),(.e 58 (.I ((b.ops.length:Nat):Int))),(.e 59 (.I ((j+1:Nat):Int)))] [] [] [] [([],(.I (IntKind.i64.wrap (((j:Nat):Int)+1))),(.I ((j+1:Nat):Int)))] hR hM mix (by kernel_rfl) (by kernel_rfl) (by kernel_rfl) (by kernel_rfl) trivial ⟨fun hg=>SX.wrap_ok (by omega),trivial⟩ (fun w' hb' hM'=>trivial) (fun w' hb' hM'=>trivial) ?_
    clear hR hM; intro a130 w131 hR hb132 hM
    replace hB:=hB.tr hb132
    replace hmap:=hmap.below hb132
    replace hkn114:=SX.blk_below hkn114 hb132
    exact ⟨b.ops.length-(j+1),by omega,j+1,rfl,by omega,hR.keep (ts:=[2,3,5,17,18,19,57,58,59]) (by kernel_rfl),hB,SX.cells_sub hM [22,23,24,25,26,27,28,29,30,31,32,33,34,35,36,37] (by kernel_rfl),⟨hmap,hup.step hy (by have:=h125; rw [rightOpD_eq,rightBindD_eq] at this; unfold opAt; cases h1:P.clean y <;> cases h2:P.rightOp c b y j <;> cases h3:(y.kind==21) <;> cases h4:P.rightBind c b y b.ops.length <;> simp_all)⟩⟩
  ·skip
   refine wp_exit ?_
   refine hK92 _ _ ?_
   refine wp_seq_k fun K133 hK133=>?_
   refine SX.region_q [] [.ld [12,13,14,15],.ld [0,1],.ld [],.ld [4,5,6,7,8,9,10,11],.ld [],.ld [3],.ld [],.cl (.bool (rightTermH c (fun x=>hasD b.params (dk b.ops b.ops.length) x ((b.ops.length:Nat):Int)) b.term)),.ld []] [2,3,4,5,17,18,19,57,58,59] [(.e 2 (.P n5)),(.e 3 (.P n9)),(.e 4 (.bool (rightTermH c (fun x=>hasD b.params (dk b.ops b.ops.length) x ((b.ops.length:Nat):Int)) b.term))),(.e 5 (.P n27)),(.e 17 (.slice B1 b.ops.length j1)),(.e 18 (.I ((b.ops.length:Nat):Int))),(.e 19 (.I ((b.ops.length:Nat):Int))),(.e 57 (.slice B1 b.ops.length j1)),(.e 58 (.I ((b.ops.length:Nat):Int))),(.e 59 (.I ((j:Nat):Int)))] [] [] [([],130,#[(.agg #[.I c.params,.slice A1 c.blocks.length k1,.slice A2 c.contexts.length k2,.slice A3 c.objects.length k3]),(.agg #[.I b.params,.map (some n17)]),(.agg #[.I b.term.kind,.I b.term.a,.I b.term.n,.slice B2 b.term.args.length j2,.I b.term.b0,.slice B3 b.term.args0.length j3,.I b.term.b1,.slice B4 b.term.args1.length j4]),(.I ((b.ops.length:Nat):Int))],(.bool (rightTermH c (fun x=>hasD b.params (dk b.ops b.ops.length) x ((b.ops.length:Nat):Int)) b.term)))] [] hR hM mix (by kernel_rfl) (by kernel_rfl) (by kernel_rfl) (by kernel_rfl) trivial trivial (fun w' hb' hM'=>trivial) (fun w' hb' hM'=>⟨fun hg=>rightTerm_any c _ _ _ _ (h0.below (hB.tr hb')) b.term _ _ _ (hb0.2.2.1.below (hB.tr hb')) (hb0.2.2.2.1.below (hB.tr hb')) (hb0.2.2.2.2.below (hB.tr hb')) _ _ _ _ hbp (hmap.below hb'),trivial⟩) ?_
   clear hR hM; intro a134 w135 hR hb136 hM
   replace hB:=hB.tr hb136
   replace hmap:=hmap.below hb136
   refine hK133 _ _ ?_
   refine wp_ret ?_
   try simp only [Exit.then,Exit.inBlock,Nat.reduceEqDiff,↓reduceIte]
   refine SX.ret_ 4 (.bool (rightTermH c (fun x=>hasD b.params (dk b.ops b.ops.length) x ((b.ops.length:Nat):Int)) b.term)) Try.results85 hR (by kernel_rfl) ?_
   clear hR hM mix hK1 hzn5 hb4 hkn5 hln5 hn5 hzn9 qn5n9 hb8 hkn9 hln9 hn9 hb12 hK13 hb16 qn5n17 qn9n17 hb20 hn17 hzn17 hb23 hzn27 qn5n27 qn9n27 qn17n27 hb26 hkn27 hln27 hn27 hnen27 hb30 hK31 hK32 hb35 hm38 hK39 hb42 hK43 hK92 hK93 hb96 hm99 hK100 hb103 hK104 hK133 hb136
   refine ⟨ret_bool ?_,hB⟩
   rw [rightBlock_eq]
   rw [rightTermH_eq,← hdefs,← hup.allAt (le_of_dec h105)]; simp
end Go.Proofs.Ytlkcidmmpeebeaa
