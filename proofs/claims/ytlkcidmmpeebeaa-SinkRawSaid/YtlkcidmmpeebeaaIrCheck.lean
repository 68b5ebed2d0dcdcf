/- Proved: ir.CheckCode -/
import Derived.Test.YtlkcidmmpeebeaaRBlock
set_option linter.unusedVariables false
set_option linter.unusedSimpArgs false
namespace Go.Proofs.Ytlkcidmmpeebeaa
open Go.RowKit
set_option maxRecDepth 100000
theorem lim_eq (c:CodeD) (tot:Int):(decide (400<c.blocks.length)||decide (6000<tot)||decide (64<c.contexts.length)||decide (64<c.objects.length))=(((decide ((400:Int)<((c.blocks.length:Nat):Int))||decide (6000<tot))||decide ((64:Int)<((c.contexts.length:Nat):Int)))||decide ((64:Int)<((c.objects.length:Nat):Int))):=by
 have e1:decide (400<c.blocks.length)=decide ((400:Int)<((c.blocks.length:Nat):Int)):=by rw [Bool.eq_iff_iff]; simp only [decide_eq_true_eq]; omega
 have e2:decide (64<c.contexts.length)=decide ((64:Int)<((c.contexts.length:Nat):Int)):=by rw [Bool.eq_iff_iff]; simp only [decide_eq_true_eq]; omega
 have e3:decide (64<c.objects.length)=decide ((64:Int)<((c.objects.length:Nat):Int)):=by rw [Bool.eq_iff_iff]; simp only [decide_eq_true_eq]; omega
 rw [e1,e2,e3]

set_option maxHeartbeats 1000000 in
theorem irCheck_any (c:CodeD) (v1 v2 v3:Value) (w:World) (h:CodeAt w v1 v2 v3 c):Calls Try.prog 46 #[(.agg #[.I c.params,v1,v2,v3])] w fun e w'=>e=.returned (.I (P.check c (totW c.blocks)))∧Below w.heap.size w w':=by
 have h0:=h
 obtain ⟨A1,k1,rfl,s1⟩:=h.2.1.shape
 obtain ⟨A2,k2,rfl,s2⟩:=h.2.2.1.shape
 obtain ⟨A3,k3,rfl,s3⟩:=h.2.2.2.shape
 unfold Shape at s1 s2 s3
 have mix:=mixed
 have hB:Below w.heap.size w w:=Below.refl _ _
 have hM:SX.Cells w []:=SX.cells_nil
 refine SX.enter [(.agg #[.I c.params,.slice A1 c.blocks.length k1,.slice A2 c.contexts.length k2,.slice A3 c.objects.length k3])] 81 Try.func46 rfl rfl (by kernel_rfl) ?_
 intro a hR
 refine wp_seq_k fun K1 hK1=>?_
 refine SX.region_l ?_
 obtain ⟨n5,hn5⟩:∃ n,w.heap.size=n:=⟨_,rfl⟩
 have hzn5:w.heap.size≤n5:=by have:=hB.size; omega
 refine SX.list_box 0 n5 [(.I c.params),(.slice A1 c.blocks.length k1),(.slice A2 c.contexts.length k2),(.slice A3 c.objects.length k3)] 26 ((.e 1 (.P n5))::[(.e 0 (.agg #[.I c.params,.slice A1 c.blocks.length k1,.slice A2 c.contexts.length k2,.slice A3 c.objects.length k3]))]) [(⟨n5,0,none⟩,(.I c.params)),(⟨n5,1,none⟩,(.slice A1 c.blocks.length k1)),(⟨n5,2,none⟩,(.slice A2 c.contexts.length k2)),(⟨n5,3,none⟩,(.slice A3 c.objects.length k3))] hR hM hn5 (by kernel_rfl) (by kernel_rfl) ?_
 clear hR hM; intro a2 w3 hR hb4 hM hkn5 hln5
 replace hB:=hB.tr hb4
 replace hR:SX.RSt 81 [] [(.e 1 (.P n5))] a2:=hR.keep (ts:=[1]) (by kernel_rfl)
 refine SX.list_q0 (κ:=[]) 1 1 [.ld []] [1] [(.e 1 (.P n5))] hR hM (by kernel_rfl) (by kernel_rfl) ?_
 clear hR hM; intro a6 w7 hR hb8 hM
 replace hB:=hB.tr hb8
 replace hkn5:=SX.blk_below hkn5 hb8
 refine SX.list_end 2 (by kernel_rfl) ?_
 refine hK1 _ _ ?_
 refine wp_seq_k fun K9 hK9=>?_
 refine SX.region_q0 [.ld []] [1,3] [(.e 1 (.P n5)),(.e 3 (.I 0))] hR hM mix (by kernel_rfl) (by kernel_rfl) (by kernel_rfl) (by kernel_rfl) ?_
 clear hR hM; intro a10 w11 hR hb12 hM
 replace hB:=hB.tr hb12
 replace hkn5:=SX.blk_below hkn5 hb12
 refine hK9 _ _ ?_
 refine wp_seq_k fun K13 hK13=>?_
 refine wp_seq_k fun K14 hK14=>?_
 refine SX.region_q0 [.ld [],.ld [1],.ld [],.ld []] [1,3,11,12,13] [(.e 1 (.P n5)),(.e 3 (.I 0)),(.e 11 (.slice A1 c.blocks.length k1)),(.e 12 (.I ((c.blocks.length:Nat):Int))),(.e 13 (.I 0))] hR hM mix (by kernel_rfl) (by kernel_rfl) (by kernel_rfl) (by kernel_rfl) ?_
 clear hR hM; intro a15 w16 hR hb17 hM
 replace hB:=hB.tr hb17
 replace hkn5:=SX.blk_below hkn5 hb17
 refine hK14 _ _ ?_
 refine wp_block ?_
 refine wp_loop_ghost (fun m20 a' w'=>∃ k:Nat,m20=c.blocks.length-k∧k≤c.blocks.length∧SX.RSt 81 [] [(.e 1 (.P n5)),(.e 3 (.I (totW (c.blocks.take (k))))),(.e 11 (.slice A1 c.blocks.length k1)),(.e 12 (.I ((c.blocks.length:Nat):Int))),(.e 13 (.I ((k:Nat):Int)))] a'∧Below w.heap.size w w'∧SX.Cells w' [(⟨n5,0,none⟩,(.I c.params)),(⟨n5,1,none⟩,(.slice A1 c.blocks.length k1)),(⟨n5,2,none⟩,(.slice A2 c.contexts.length k2)),(⟨n5,3,none⟩,(.slice A3 c.objects.length k3))]∧True) (c.blocks.length-0) ⟨0,rfl,Nat.zero_le _,hR.keep (ts:=[1,3,11,12,13]) (by kernel_rfl),hB,hM,trivial⟩ ?_
 clear hR hM hB
 rintro m20 a18 w19 ⟨k,hm20,hlek,hR,hB,hM,hIk⟩
 refine wp_seq_k fun K21 hK21=>?_
 refine SX.region_q0 [.ld []] [1,3,11,12,13,14] [(.e 1 (.P n5)),(.e 3 (.I (totW (c.blocks.take (k))))),(.e 11 (.slice A1 c.blocks.length k1)),(.e 12 (.I ((c.blocks.length:Nat):Int))),(.e 13 (.I ((k:Nat):Int))),(.e 14 (.bool (decide (((k:Nat):Int)<((c.blocks.length:Nat):Int)))))] hR hM mix (by kernel_rfl) (by kernel_rfl) (by kernel_rfl) (by kernel_rfl) ?_
 clear hR hM; intro a22 w23 hR hb24 hM
 replace hB:=hB.tr hb24
 refine hK21 _ _ ?_
 refine wp_seq_k fun K25 hK25=>?_
 refine SX.cond_ (decide (((k:Nat):Int)<((c.blocks.length:Nat):Int))) hR (by kernel_rfl) (fun h26=>?_) (fun h26=>?_)
 ·skip
  refine wp_skip ?_
  refine hK25 _ _ ?_
  refine wp_seq_k fun K27 hK27=>?_
  refine wp_block ?_
  refine wp_seq_k fun K28 hK28=>?_
  have hlt:k<c.blocks.length:=lt_of_dec h26
  obtain ⟨x,hx⟩:=get_of_lt hlt
  obtain ⟨bbx,box,hAx,B1x,j1x,B2x,j2x,B3x,j3x,B4x,j4x,hsx,hblx,cb0x,cb1x,cb2x,cb3x,cb4x,cb5x,cb6x,cb7x,cb8x,cb9x⟩:=h0.2.1.elem hx
  subst hAx; unfold Shape at hsx
  have hox:bbx<w.heap.size:=World.block_lt_of_cell? w _ cb0x
  replace hM:=(SX.cells_add (cell_below hB cb0x) (SX.cells_add (cell_below hB cb1x) (SX.cells_add (cell_below hB cb2x) (SX.cells_add (cell_below hB cb3x) (SX.cells_add (cell_below hB cb4x) (SX.cells_add (cell_below hB cb5x) (SX.cells_add (cell_below hB cb6x) (SX.cells_add (cell_below hB cb7x) (SX.cells_add (cell_below hB cb8x) (SX.cells_add (cell_below hB cb9x) hM))))))))))
  refine SX.region_l ?_
  refine SX.list_q (κ:=[]) 0 2 [.ix ⟨bbx,box+k*10,none⟩,.ld [0,1,2,3,4,5,6,7,8,9]] [1,3,11,12,13,16] [(.e 1 (.P n5)),(.e 3 (.I (totW (c.blocks.take (k))))),(.e 11 (.slice (some ⟨bbx,box,none⟩) c.blocks.length k1)),(.e 12 (.I ((c.blocks.length:Nat):Int))),(.e 13 (.I ((k:Nat):Int))),(.e 16 (.agg #[.I x.params,.slice B1x x.ops.length j1x,.I x.term.kind,.I x.term.a,.I x.term.n,.slice B2x x.term.args.length j2x,.I x.term.b0,.slice B3x x.term.args0.length j3x,.I x.term.b1,.slice B4x x.term.args1.length j4x]))] [([],⟨bbx,box,none⟩,c.blocks.length,((k:Nat):Int),10,⟨bbx,box+k*10,none⟩)] [] [] [] hR hM (by kernel_rfl) (by kernel_rfl) ⟨fun hg=>SX.ix_ok (by omega),trivial⟩ trivial (fun w' hb' hM'=>trivial) (fun w' hb' hM'=>trivial) ?_
  clear hR hM; intro a29 w30 hR hb31 hM
  replace hB:=hB.tr hb31
  obtain ⟨n35,hn35⟩:∃ n,w30.heap.size=n:=⟨_,rfl⟩
  have hzn35:w.heap.size≤n35:=by have:=hB.size; omega
  refine SX.list_alloc 2 n35 [(.I 0),(.slice none 0 0),(.I 0),(.I 0),(.I 0),(.slice none 0 0),(.I 0),(.slice none 0 0),(.I 0),(.slice none 0 0)] 62 ((.e 5 (.P n35))::[(.e 1 (.P n5)),(.e 3 (.I (totW (c.blocks.take (k))))),(.e 11 (.slice (some ⟨bbx,box,none⟩) c.blocks.length k1)),(.e 12 (.I ((c.blocks.length:Nat):Int))),(.e 13 (.I ((k:Nat):Int))),(.e 16 (.agg #[.I x.params,.slice B1x x.ops.length j1x,.I x.term.kind,.I x.term.a,.I x.term.n,.slice B2x x.term.args.length j2x,.I x.term.b0,.slice B3x x.term.args0.length j3x,.I x.term.b1,.slice B4x x.term.args1.length j4x]))]) hR hM hn35 (by kernel_rfl) ?_
  clear hR hM; intro a32 w33 hR hb34 hM hkn35 hln35 hnen35
  replace hB:=hB.tr hb34
  replace hR:SX.RSt 81 [] [(.e 1 (.P n5)),(.e 3 (.I (totW (c.blocks.take (k))))),(.e 5 (.P n35)),(.e 11 (.slice (some ⟨bbx,box,none⟩) c.blocks.length k1)),(.e 12 (.I ((c.blocks.length:Nat):Int))),(.e 13 (.I ((k:Nat):Int))),(.e 16 (.agg #[.I x.params,.slice B1x x.ops.length j1x,.I x.term.kind,.I x.term.a,.I x.term.n,.slice B2x x.term.args.length j2x,.I x.term.b0,.slice B3x x.term.args0.length j3x,.I x.term.b1,.slice B4x x.term.args1.length j4x]))] a32:=hR.keep (ts:=[1,3,5,11,12,13,16]) (by kernel_rfl)
  refine SX.list_store 3 [(0,(.I x.params)),(1,(.slice B1x x.ops.length j1x)),(2,(.I x.term.kind)),(3,(.I x.term.a)),(4,(.I x.term.n)),(5,(.slice B2x x.term.args.length j2x)),(6,(.I x.term.b0)),(7,(.slice B3x x.term.args0.length j3x)),(8,(.I x.term.b1)),(9,(.slice B4x x.term.args1.length j4x))] [(.I x.params),(.slice B1x x.ops.length j1x),(.I x.term.kind),(.I x.term.a),(.I x.term.n),(.slice B2x x.term.args.length j2x),(.I x.term.b0),(.slice B3x x.term.args0.length j3x),(.I x.term.b1),(.slice B4x x.term.args1.length j4x)] [(⟨bbx,box+k*10,none⟩,(.I x.params)),(⟨bbx,box+k*10+1,none⟩,(.slice B1x x.ops.length j1x)),(⟨bbx,box+k*10+2,none⟩,(.I x.term.kind)),(⟨bbx,box+k*10+3,none⟩,(.I x.term.a)),(⟨bbx,box+k*10+4,none⟩,(.I x.term.n)),(⟨bbx,box+k*10+5,none⟩,(.slice B2x x.term.args.length j2x)),(⟨bbx,box+k*10+6,none⟩,(.I x.term.b0)),(⟨bbx,box+k*10+7,none⟩,(.slice B3x x.term.args0.length j3x)),(⟨bbx,box+k*10+8,none⟩,(.I x.term.b1)),(⟨bbx,box+k*10+9,none⟩,(.slice B4x x.term.args1.length j4x)),(⟨n5,0,none⟩,(.I c.params)),(⟨n5,1,none⟩,(.slice (some ⟨bbx,box,none⟩) c.blocks.length k1)),(⟨n5,2,none⟩,(.slice A2 c.contexts.length k2)),(⟨n5,3,none⟩,(.slice A3 c.objects.length k3))] [(⟨n35,0,none⟩,(.I x.params)),(⟨n35,1,none⟩,(.slice B1x x.ops.length j1x)),(⟨n35,2,none⟩,(.I x.term.kind)),(⟨n35,3,none⟩,(.I x.term.a)),(⟨n35,4,none⟩,(.I x.term.n)),(⟨n35,5,none⟩,(.slice B2x x.term.args.length j2x)),(⟨n35,6,none⟩,(.I x.term.b0)),(⟨n35,7,none⟩,(.slice B3x x.term.args0.length j3x)),(⟨n35,8,none⟩,(.I x.term.b1)),(⟨n35,9,none⟩,(.slice B4x x.term.args1.length j4x)),(⟨bbx,box+k*10,none⟩,(.I x.params)),(⟨bbx,box+k*10+1,none⟩,(.slice B1x x.ops.length j1x)),(⟨bbx,box+k*10+2,none⟩,(.I x.term.kind)),(⟨bbx,box+k*10+3,none⟩,(.I x.term.a)),(⟨bbx,box+k*10+4,none⟩,(.I x.term.n)),(⟨bbx,box+k*10+5,none⟩,(.slice B2x x.term.args.length j2x)),(⟨bbx,box+k*10+6,none⟩,(.I x.term.b0)),(⟨bbx,box+k*10+7,none⟩,(.slice B3x x.term.args0.length j3x)),(⟨bbx,box+k*10+8,none⟩,(.I x.term.b1)),(⟨bbx,box+k*10+9,none⟩,(.slice B4x x.term.args1.length j4x)),(⟨n5,0,none⟩,(.I c.params)),(⟨n5,1,none⟩,(.slice (some ⟨bbx,box,none⟩) c.blocks.length k1)),(⟨n5,2,none⟩,(.slice A2 c.contexts.length k2)),(⟨n5,3,none⟩,(.slice A3 c.objects.length k3))] hR (SX.cells_sub hM [0,1,2,3,4,5,6,7,8,9,10,11,12,13] (by kernel_rfl)) hnen35 hkn35 (by kernel_rfl) (by kernel_rfl) (by kernel_rfl) ?_
  clear hR hM hkn35; intro a36 w37 hR hb38 hM hkn35
  replace hB:=hB.trans (hb38.below (by omega))
  refine SX.list_end 4 (by kernel_rfl) ?_
  refine hK28 _ _ ?_
  refine SX.region_q [] [.ld [],.ld [],.ld [1],.ld [],.nm (.I (totW (c.blocks.take (k+1)))),.ld []] [1,3,11,12,13] [(.e 1 (.P n5)),(.e 3 (.I (totW (c.blocks.take (k+1))))),(.e 11 (.slice (some ⟨bbx,box,none⟩) c.blocks.length k1)),(.e 12 (.I ((c.blocks.length:Nat):Int))),(.e 13 (.I ((k:Nat):Int)))] [] [] [] [([],(.I (IntKind.i64.wrap ((totW (c.blocks.take (k)))+((x.ops.length:Nat):Int)))),(.I (totW (c.blocks.take (k+1)))))] hR hM mix (by kernel_rfl) (by kernel_rfl) (by kernel_rfl) (by kernel_rfl) trivial ⟨fun hg=>by rw [totW_step hx],trivial⟩ (fun w' hb' hM'=>trivial) (fun w' hb' hM'=>trivial) ?_
  clear hR hM; intro a39 w40 hR hb41 hM
  replace hB:=hB.tr hb41
  replace hkn35:=SX.blk_below hkn35 hb41
  refine hK27 _ _ ?_
  refine SX.region_q [] [.nm (.I ((k+1:Nat):Int)),.ld []] [1,3,11,12,13] [(.e 1 (.P n5)),(.e 3 (.I (totW (c.blocks.take (k+1))))),(.e 11 (.slice (some ⟨bbx,box,none⟩) c.blocks.length k1)),(.e 12 (.I ((c.blocks.length:Nat):Int))),(.e 13 (.I ((k+1:Nat):Int)))] [] [] [] [([],(.I (IntKind.i64.wrap (((k:Nat):Int)+1))),(.I ((k+1:Nat):Int)))] hR hM mix (by kernel_rfl) (by kernel_rfl) (by kernel_rfl) (by kernel_rfl) trivial ⟨fun hg=>SX.wrap_ok (by omega),trivial⟩ (fun w' hb' hM'=>trivial) (fun w' hb' hM'=>trivial) ?_
  clear hR hM; intro a42 w43 hR hb44 hM
  replace hB:=hB.tr hb44
  replace hkn35:=SX.blk_below hkn35 hb44
  exact ⟨c.blocks.length-(k+1),by omega,k+1,rfl,by omega,hR.keep (ts:=[1,3,11,12,13]) (by kernel_rfl),hB,SX.cells_sub hM [20,21,22,23] (by kernel_rfl),trivial⟩
 ·skip
  refine wp_exit ?_
  refine hK13 _ _ ?_
  refine wp_seq_k fun K45 hK45=>?_
  refine wp_seq_k fun K46 hK46=>?_
  obtain rfl:k=c.blocks.length:=by have:=le_of_dec h26; omega
  rw [List.take_length] at hR
  refine SX.region_q [(4,decide (400<((c.blocks.length:Nat):Int))),(8,(decide (400<((c.blocks.length:Nat):Int))||decide (6000<(totW c.blocks)))),(14,((decide (400<((c.blocks.length:Nat):Int))||decide (6000<(totW c.blocks)))||decide (64<((c.contexts.length:Nat):Int))))] [.ld [],.ld [1],.ld [],.ld [],.ld [],.ld [],.ld [],.pk,.ld [],.ld [],.ld [2],.ld [],.ld [],.pk,.ld [],.ld [],.ld [3],.ld [],.ld [],.pk] [1,3,11,12,13,42] [(.e 1 (.P n5)),(.e 3 (.I (totW c.blocks))),(.e 11 (.slice A1 c.blocks.length k1)),(.e 12 (.I ((c.blocks.length:Nat):Int))),(.e 13 (.I ((c.blocks.length:Nat):Int))),(.e 42 (.bool (((decide (400<((c.blocks.length:Nat):Int))||decide (6000<(totW c.blocks)))||decide (64<((c.contexts.length:Nat):Int)))||decide (64<((c.objects.length:Nat):Int)))))] [] [] [] [] hR hM mix (by kernel_rfl) (by kernel_rfl) (by kernel_rfl) (by kernel_rfl) trivial trivial (fun w' hb' hM'=>trivial) (fun w' hb' hM'=>trivial) ?_
  clear hR hM; intro a47 w48 hR hb49 hM
  replace hB:=hB.tr hb49
  refine hK46 _ _ ?_
  refine SX.cond_ (((decide (400<((c.blocks.length:Nat):Int))||decide (6000<(totW c.blocks)))||decide (64<((c.contexts.length:Nat):Int)))||decide (64<((c.objects.length:Nat):Int))) hR (by kernel_rfl) (fun h50=>?_) (fun h50=>?_)
  ·skip
   refine wp_seq_k fun K51 hK51=>?_
   refine SX.region_q0 [.ld []] [1,2,3,11,12,13] [(.e 1 (.P n5)),(.e 2 (.I 5)),(.e 3 (.I (totW c.blocks))),(.e 11 (.slice A1 c.blocks.length k1)),(.e 12 (.I ((c.blocks.length:Nat):Int))),(.e 13 (.I ((c.blocks.length:Nat):Int)))] hR hM mix (by kernel_rfl) (by kernel_rfl) (by kernel_rfl) (by kernel_rfl) ?_
   clear hR hM; intro a52 w53 hR hb54 hM
   replace hB:=hB.tr hb54
   refine hK51 _ _ ?_
   refine wp_ret ?_
   try simp only [Exit.then,Exit.inBlock,Nat.reduceEqDiff,↓reduceIte]
   refine SX.ret_ 2 (.I 5) Try.results46 hR (by kernel_rfl) ?_
   clear hR hM mix hK1 hzn5 hb4 hkn5 hln5 hn5 hb8 hK9 hb12 hK13 hK14 hb17 hm20 hK21 hb24 hK25 hK45 hK46 hb49 hK51 hb54
   refine ⟨ret_int ?_,hB⟩
   unfold P.check
   rw [lim_eq]
   simp only [h50,Bool.false_eq_true,↓reduceIte]
  ·skip
   refine wp_skip ?_
   refine hK45 _ _ ?_
   refine wp_seq_k fun K55 hK55=>?_
   refine wp_seq_k fun K56 hK56=>?_
   refine SX.region_q [(3,(!(P.rightHead c))),(9,((!(P.rightHead c))||(!(P.rightContexts c.contexts))))] [.ld [0,1,2,3],.cl (.bool (P.rightHead c)),.ld [],.ld [],.ld [],.ld [2],.cl (.bool (P.rightContexts c.contexts)),.ld [],.pk,.ld [],.ld [0,1,2,3],.cl (.bool (P.rightObjects c.contexts.length [] c.objects)),.ld [],.pk] [1,3,11,12,13,56] [(.e 1 (.P n5)),(.e 3 (.I (totW c.blocks))),(.e 11 (.slice A1 c.blocks.length k1)),(.e 12 (.I ((c.blocks.length:Nat):Int))),(.e 13 (.I ((c.blocks.length:Nat):Int))),(.e 56 (.bool (((!(P.rightHead c))||(!(P.rightContexts c.contexts)))||(!(P.rightObjects c.contexts.length [] c.objects)))))] [] [] [([],81,#[(.agg #[.I c.params,.slice A1 c.blocks.length k1,.slice A2 c.contexts.length k2,.slice A3 c.objects.length k3])],(.bool (P.rightHead c))),([(3,false)],82,#[(.slice A2 c.contexts.length k2)],(.bool (P.rightContexts c.contexts))),([(9,false)],83,#[(.agg #[.I c.params,.slice A1 c.blocks.length k1,.slice A2 c.contexts.length k2,.slice A3 c.objects.length k3])],(.bool (P.rightObjects c.contexts.length [] c.objects)))] [] hR hM mix (by kernel_rfl) (by kernel_rfl) (by kernel_rfl) (by kernel_rfl) trivial trivial (fun w' hb' hM'=>trivial) (fun w' hb' hM'=>⟨fun hg=>rightHead_any c _ _ _ _ (h0.below (hB.tr hb')),fun hg=>rightContexts_any _ _ _ (h0.2.2.1.below (hB.tr hb')),fun hg=>rightObjects_any c _ _ _ _ (h0.below (hB.tr hb')),trivial⟩) ?_
   clear hR hM; intro a57 w58 hR hb59 hM
   replace hB:=hB.tr hb59
   refine hK56 _ _ ?_
   refine SX.cond_ (((!(P.rightHead c))||(!(P.rightContexts c.contexts)))||(!(P.rightObjects c.contexts.length [] c.objects))) hR (by kernel_rfl) (fun h60=>?_) (fun h60=>?_)
   ·skip
    refine wp_seq_k fun K61 hK61=>?_
    refine SX.region_q0 [.ld []] [1,2,3,11,12,13] [(.e 1 (.P n5)),(.e 2 (.I 4)),(.e 3 (.I (totW c.blocks))),(.e 11 (.slice A1 c.blocks.length k1)),(.e 12 (.I ((c.blocks.length:Nat):Int))),(.e 13 (.I ((c.blocks.length:Nat):Int)))] hR hM mix (by kernel_rfl) (by kernel_rfl) (by kernel_rfl) (by kernel_rfl) ?_
    clear hR hM; intro a62 w63 hR hb64 hM
    replace hB:=hB.tr hb64
    refine hK61 _ _ ?_
    refine wp_ret ?_
    try simp only [Exit.then,Exit.inBlock,Nat.reduceEqDiff,↓reduceIte]
    refine SX.ret_ 2 (.I 4) Try.results46 hR (by kernel_rfl) ?_
    clear hR hM mix hK1 hzn5 hb4 hkn5 hln5 hn5 hb8 hK9 hb12 hK13 hK14 hb17 hm20 hK21 hb24 hK25 hK45 hK46 hb49 hK55 hK56 hb59 hK61 hb64
    refine ⟨ret_int ?_,hB⟩
    unfold P.check
    rw [lim_eq]
    simp only [h50,h60,Bool.false_eq_true,↓reduceIte]
   ·skip
    refine wp_skip ?_
    refine hK55 _ _ ?_
    refine wp_seq_k fun K65 hK65=>?_
    refine wp_seq_k fun K66 hK66=>?_
    refine SX.region_q0 [.ld [],.ld [1],.ld [],.ld []] [1,3,11,12,13,58,59,60] [(.e 1 (.P n5)),(.e 3 (.I (totW c.blocks))),(.e 11 (.slice A1 c.blocks.length k1)),(.e 12 (.I ((c.blocks.length:Nat):Int))),(.e 13 (.I ((c.blocks.length:Nat):Int))),(.e 58 (.slice A1 c.blocks.length k1)),(.e 59 (.I ((c.blocks.length:Nat):Int))),(.e 60 (.I 0))] hR hM mix (by kernel_rfl) (by kernel_rfl) (by kernel_rfl) (by kernel_rfl) ?_
    clear hR hM; intro a67 w68 hR hb69 hM
    replace hB:=hB.tr hb69
    refine hK66 _ _ ?_
    refine wp_block ?_
    refine wp_loop_ghost (fun m72 a' w'=>∃ j:Nat,m72=c.blocks.length-j∧j≤c.blocks.length∧SX.RSt 81 [] [(.e 1 (.P n5)),(.e 3 (.I (totW c.blocks))),(.e 11 (.slice A1 c.blocks.length k1)),(.e 12 (.I ((c.blocks.length:Nat):Int))),(.e 13 (.I ((c.blocks.length:Nat):Int))),(.e 58 (.slice A1 c.blocks.length k1)),(.e 59 (.I ((c.blocks.length:Nat):Int))),(.e 60 (.I ((j:Nat):Int)))] a'∧Below w.heap.size w w'∧SX.Cells w' [(⟨n5,0,none⟩,(.I c.params)),(⟨n5,1,none⟩,(.slice A1 c.blocks.length k1)),(⟨n5,2,none⟩,(.slice A2 c.contexts.length k2)),(⟨n5,3,none⟩,(.slice A3 c.objects.length k3))]∧Upto c.blocks (fun _ b=>P.within b.params 999) (j)) (c.blocks.length-0) ⟨0,rfl,Nat.zero_le _,hR.keep (ts:=[1,3,11,12,13,58,59,60]) (by kernel_rfl),hB,hM,Upto.zero⟩ ?_
    clear hR hM hB
    rintro m72 a70 w71 ⟨j,hm72,hlej,hR,hB,hM,hIj⟩
    refine wp_seq_k fun K73 hK73=>?_
    refine SX.region_q0 [.ld []] [1,3,11,12,13,58,59,60,61] [(.e 1 (.P n5)),(.e 3 (.I (totW c.blocks))),(.e 11 (.slice A1 c.blocks.length k1)),(.e 12 (.I ((c.blocks.length:Nat):Int))),(.e 13 (.I ((c.blocks.length:Nat):Int))),(.e 58 (.slice A1 c.blocks.length k1)),(.e 59 (.I ((c.blocks.length:Nat):Int))),(.e 60 (.I ((j:Nat):Int))),(.e 61 (.bool (decide (((j:Nat):Int)<((c.blocks.length:Nat):Int)))))] hR hM mix (by kernel_rfl) (by kernel_rfl) (by kernel_rfl) (by kernel_rfl) ?_
    clear hR hM; intro a74 w75 hR hb76 hM
    replace hB:=hB.tr hb76
    refine hK73 _ _ ?_
    refine wp_seq_k fun K77 hK77=>?_
    refine SX.cond_ (decide (((j:Nat):Int)<((c.blocks.length:Nat):Int))) hR (by kernel_rfl) (fun h78=>?_) (fun h78=>?_)
    ·skip
     refine wp_skip ?_
     refine hK77 _ _ ?_
     refine wp_seq_k fun K79 hK79=>?_
     refine wp_block ?_
     refine wp_seq_k fun K80 hK80=>?_
     have hlt:j<c.blocks.length:=lt_of_dec h78
     obtain ⟨y,hy⟩:=get_of_lt hlt
     obtain ⟨bby,boy,hAy,B1y,j1y,B2y,j2y,B3y,j3y,B4y,j4y,hsy,hbly,cb0y,cb1y,cb2y,cb3y,cb4y,cb5y,cb6y,cb7y,cb8y,cb9y⟩:=h0.2.1.elem hy
     subst hAy; unfold Shape at hsy
     have hoy:bby<w.heap.size:=World.block_lt_of_cell? w _ cb0y
     replace hM:=(SX.cells_add (cell_below hB cb0y) (SX.cells_add (cell_below hB cb1y) (SX.cells_add (cell_below hB cb2y) (SX.cells_add (cell_below hB cb3y) (SX.cells_add (cell_below hB cb4y) (SX.cells_add (cell_below hB cb5y) (SX.cells_add (cell_below hB cb6y) (SX.cells_add (cell_below hB cb7y) (SX.cells_add (cell_below hB cb8y) (SX.cells_add (cell_below hB cb9y) hM))))))))))
     refine SX.region_l ?_
     refine SX.list_q (κ:=[]) 0 2 [.ix ⟨bby,boy+j*10,none⟩,.ld [0,1,2,3,4,5,6,7,8,9]] [1,3,11,12,13,58,59,60,63] [(.e 1 (.P n5)),(.e 3 (.I (totW c.blocks))),(.e 11 (.slice (some ⟨bby,boy,none⟩) c.blocks.length k1)),(.e 12 (.I ((c.blocks.length:Nat):Int))),(.e 13 (.I ((c.blocks.length:Nat):Int))),(.e 58 (.slice (some ⟨bby,boy,none⟩) c.blocks.length k1)),(.e 59 (.I ((c.blocks.length:Nat):Int))),(.e 60 (.I ((j:Nat):Int))),(.e 63 (.agg #[.I y.params,.slice B1y y.ops.length j1y,.I y.term.kind,.I y.term.a,.I y.term.n,.slice B2y y.term.args.length j2y,.I y.term.b0,.slice B3y y.term.args0.length j3y,.I y.term.b1,.slice B4y y.term.args1.length j4y]))] [([],⟨bby,boy,none⟩,c.blocks.length,((j:Nat):Int),10,⟨bby,boy+j*10,none⟩)] [] [] [] hR hM (by kernel_rfl) (by kernel_rfl) ⟨fun hg=>SX.ix_ok (by omega),trivial⟩ trivial (fun w' hb' hM'=>trivial) (fun w' hb' hM'=>trivial) ?_
     clear hR hM; intro a81 w82 hR hb83 hM
     replace hB:=hB.tr hb83
     obtain ⟨n87,hn87⟩:∃ n,w82.heap.size=n:=⟨_,rfl⟩
     have hzn87:w.heap.size≤n87:=by have:=hB.size; omega
     refine SX.list_alloc 2 n87 [(.I 0),(.slice none 0 0),(.I 0),(.I 0),(.I 0),(.slice none 0 0),(.I 0),(.slice none 0 0),(.I 0),(.slice none 0 0)] 62 ((.e 7 (.P n87))::[(.e 1 (.P n5)),(.e 3 (.I (totW c.blocks))),(.e 11 (.slice (some ⟨bby,boy,none⟩) c.blocks.length k1)),(.e 12 (.I ((c.blocks.length:Nat):Int))),(.e 13 (.I ((c.blocks.length:Nat):Int))),(.e 58 (.slice (some ⟨bby,boy,none⟩) c.blocks.length k1)),(.e 59 (.I ((c.blocks.length:Nat):Int))),(.e 60 (.I ((j:Nat):Int))),(.e 63 (.agg #[.I y.params,.slice B1y y.ops.length j1y,.I y.term.kind,.I y.term.a,.I y.term.n,.slice B2y y.term.args.length j2y,.I y.term.b0,.slice B3y y.term.args0.length j3y,.I y.term.b1,.slice B4y y.term.args1.length j4y]))]) hR hM hn87 (by kernel_rfl) ?_
     clear hR hM; intro a84 w85 hR hb86 hM hkn87 hln87 hnen87
     replace hB:=hB.tr hb86
     replace hR:SX.RSt 81 [] [(.e 1 (.P n5)),(.e 3 (.I (totW c.blocks))),(.e 7 (.P n87)),(.e 11 (.slice (some ⟨bby,boy,none⟩) c.blocks.length k1)),(.e 12 (.I ((c.blocks.length:Nat):Int))),(.e 13 (.I ((c.blocks.length:Nat):Int))),(.e 58 (.slice (some ⟨bby,boy,none⟩) c.blocks.length k1)),(.e 59 (.I ((c.blocks.length:Nat):Int))),(.e 60 (.I ((j:Nat):Int))),(.e 63 (.agg #[.I y.params,.slice B1y y.ops.length j1y,.I y.term.kind,.I y.term.a,.I y.term.n,.slice B2y y.term.args.length j2y,.I y.term.b0,.slice B3y y.term.args0.length j3y,.I y.term.b1,.slice B4y y.term.args1.length j4y]))] a84:=hR.keep (ts:=[1,3,7,11,12,13,58,59,60,63]) (by kernel_rfl)
     refine SX.list_store 3 [(0,(.I y.params)),(1,(.slice B1y y.ops.length j1y)),(2,(.I y.term.kind)),(3,(.I y.term.a)),(4,(.I y.term.n)),(5,(.slice B2y y.term.args.length j2y)),(6,(.I y.term.b0)),(7,(.slice B3y y.term.args0.length j3y)),(8,(.I y.term.b1)),(9,(.slice B4y y.term.args1.length j4y))] [(.I y.params),(.slice B1y y.ops.length j1y),(.I y.term.kind),(.I y.term.a),(.I y.term.n),(.slice B2y y.term.args.length j2y),(.I y.term.b0),(.slice B3y y.term.args0.length j3y),(.I y.term.b1),(.slice B4y y.term.args1.length j4y)] [(⟨bby,boy+j*10,none⟩,(.I y.params)),(⟨bby,boy+j*10+1,none⟩,(.slice B1y y.ops.length j1y)),(⟨bby,boy+j*10+2,none⟩,(.I y.term.kind)),(⟨bby,boy+j*10+3,none⟩,(.I y.term.a)),(⟨bby,boy+j*10+4,none⟩,(.I y.term.n)),(⟨bby,boy+j*10+5,none⟩,(.slice B2y y.term.args.length j2y)),(⟨bby,boy+j*10+6,none⟩,(.I y.term.b0)),(⟨bby,boy+j*10+7,none⟩,(.slice B3y y.term.args0.length j3y)),(⟨bby,boy+j*10+8,none⟩,(.I y.term.b1)),(⟨bby,boy+j*10+9,none⟩,(.slice B4y y.term.args1.length j4y)),(⟨n5,0,none⟩,(.I c.params)),(⟨n5,1,none⟩,(.slice (some ⟨bby,boy,none⟩) c.blocks.length k1)),(⟨n5,2,none⟩,(.slice A2 c.contexts.length k2)),(⟨n5,3,none⟩,(.slice A3 c.objects.length k3))] [(⟨n87,0,none⟩,(.I y.params)),(⟨n87,1,none⟩,(.slice B1y y.ops.length j1y)),(⟨n87,2,none⟩,(.I y.term.kind)),(⟨n87,3,none⟩,(.I y.term.a)),(⟨n87,4,none⟩,(.I y.term.n)),(⟨n87,5,none⟩,(.slice B2y y.term.args.length j2y)),(⟨n87,6,none⟩,(.I y.term.b0)),(⟨n87,7,none⟩,(.slice B3y y.term.args0.length j3y)),(⟨n87,8,none⟩,(.I y.term.b1)),(⟨n87,9,none⟩,(.slice B4y y.term.args1.length j4y)),(⟨bby,boy+j*10,none⟩,(.I y.params)),(⟨bby,boy+j*10+1,none⟩,(.slice B1y y.ops.length j1y)),(⟨bby,boy+j*10+2,none⟩,(.I y.term.kind)),(⟨bby,boy+j*10+3,none⟩,(.I y.term.a)),(⟨bby,boy+j*10+4,none⟩,(.I y.term.n)),(⟨bby,boy+j*10+5,none⟩,(.slice B2y y.term.args.length j2y)),(⟨bby,boy+j*10+6,none⟩,(.I y.term.b0)),(⟨bby,boy+j*10+7,none⟩,(.slice B3y y.term.args0.length j3y)),(⟨bby,boy+j*10+8,none⟩,(.I y.term.b1)),(⟨bby,boy+j*10+9,none⟩,(.slice B4y y.term.args1.length j4y)),(⟨n5,0,none⟩,(.I c.params)),(⟨n5,1,none⟩,(.slice (some ⟨bby,boy,none⟩) c.blocks.length k1)),(⟨n5,2,none⟩,(.slice A2 c.contexts.length k2)),(⟨n5,3,none⟩,(.slice A3 c.objects.length k3))] hR (SX.cells_sub hM [0,1,2,3,4,5,6,7,8,9,10,11,12,13] (by kernel_rfl)) hnen87 hkn87 (by kernel_rfl) (by kernel_rfl) (by kernel_rfl) ?_
     clear hR hM hkn87; intro a88 w89 hR hb90 hM hkn87
     replace hB:=hB.trans (hb90.below (by omega))
     refine SX.list_end 4 (by kernel_rfl) ?_
     refine hK80 _ _ ?_
     refine wp_seq_k fun K91 hK91=>?_
     refine SX.region_q [] [.ld [],.ld [0],.cl (.bool (P.within y.params 999)),.ld []] [1,3,11,12,13,58,59,60,67] [(.e 1 (.P n5)),(.e 3 (.I (totW c.blocks))),(.e 11 (.slice (some ⟨bby,boy,none⟩) c.blocks.length k1)),(.e 12 (.I ((c.blocks.length:Nat):Int))),(.e 13 (.I ((c.blocks.length:Nat):Int))),(.e 58 (.slice (some ⟨bby,boy,none⟩) c.blocks.length k1)),(.e 59 (.I ((c.blocks.length:Nat):Int))),(.e 60 (.I ((j:Nat):Int))),(.e 67 (.bool (!(P.within y.params 999))))] [] [] [([],84,#[(.I y.params),(.I 999)],(.bool (P.within y.params 999)))] [] hR hM mix (by kernel_rfl) (by kernel_rfl) (by kernel_rfl) (by kernel_rfl) trivial trivial (fun w' hb' hM'=>trivial) (fun w' hb' hM'=>⟨fun hg=>SX.pureC (within_any _ _ _),trivial⟩) ?_
     clear hR hM; intro a92 w93 hR hb94 hM
     replace hB:=hB.tr hb94
     replace hkn87:=SX.blk_below hkn87 hb94
     refine hK91 _ _ ?_
     refine SX.cond_ (!(P.within y.params 999)) hR (by kernel_rfl) (fun h95=>?_) (fun h95=>?_)
     ·skip
      refine wp_seq_k fun K96 hK96=>?_
      refine SX.region_q0 [.ld []] [1,2,3,11,12,13,58,59,60] [(.e 1 (.P n5)),(.e 2 (.I 4)),(.e 3 (.I (totW c.blocks))),(.e 11 (.slice (some ⟨bby,boy,none⟩) c.blocks.length k1)),(.e 12 (.I ((c.blocks.length:Nat):Int))),(.e 13 (.I ((c.blocks.length:Nat):Int))),(.e 58 (.slice (some ⟨bby,boy,none⟩) c.blocks.length k1)),(.e 59 (.I ((c.blocks.length:Nat):Int))),(.e 60 (.I ((j:Nat):Int)))] hR hM mix (by kernel_rfl) (by kernel_rfl) (by kernel_rfl) (by kernel_rfl) ?_
      clear hR hM; intro a97 w98 hR hb99 hM
      replace hB:=hB.tr hb99
      replace hkn87:=SX.blk_below hkn87 hb99
      refine hK96 _ _ ?_
      refine wp_ret ?_
      try simp only [Exit.then,Exit.inBlock,Nat.reduceEqDiff,↓reduceIte]
      refine SX.ret_ 2 (.I 4) Try.results46 hR (by kernel_rfl) ?_
      clear hR hM mix hK1 hzn5 hb4 hkn5 hln5 hn5 hb8 hK9 hb12 hK13 hK14 hb17 hm20 hK21 hb24 hK25 hK45 hK46 hb49 hK55 hK56 hb59 hK65 hK66 hb69 hm72 hK73 hb76 hK77 hK79 hK80 hb83 hzn87 hb86 hkn87 hln87 hn87 hnen87 hb90 hK91 hb94 hK96 hb99
      refine ⟨ret_int ?_,hB⟩
      unfold P.check
      rw [lim_eq]
      simp only [h50,h60,← all_no hy (p:=fun b=>P.within b.params 999) (by simpa using h95),Bool.not_false,Bool.false_eq_true,↓reduceIte]
     ·skip
      refine wp_skip ?_
      refine hK79 _ _ ?_
      refine SX.region_q [] [.nm (.I ((j+1:Nat):Int)),.ld []] [1,3,11,12,13,58,59,60] [(.e 1 (.P n5)),(.e 3 (.I (totW c.blocks))),(.e 11 (.slice (some ⟨bby,boy,none⟩) c.blocks.length k1)),(.e 12 (.I ((c.blocks.length:Nat):Int))),(.e 13 (.I ((c.blocks.length:Nat):Int))),(.e 58 (.slice (some ⟨bby,boy,none⟩) c.blocks.length k1)),(.e 59 (.I ((c.blocks.length:Nat):Int))),(.e 60 (.I ((j+1:Nat):Int)))] [] [] [] [([],(.I (IntKind.i64.wrap (((j:Nat):Int)+1))),(.I ((j+1:Nat):Int)))] hR hM mix (by kernel_rfl) (by kernel_rfl) (by kernel_rfl) (by kernel_rfl) trivial ⟨fun hg=>SX.wrap_ok (by omega),trivial⟩ (fun w' hb' hM'=>trivial) (fun w' hb' hM'=>trivial) ?_
      clear hR hM; intro a100 w101 hR hb102 hM
      replace hB:=hB.tr hb102
      replace hkn87:=SX.blk_below hkn87 hb102
      exact ⟨c.blocks.length-(j+1),by omega,j+1,rfl,by omega,hR.keep (ts:=[1,3,11,12,13,58,59,60]) (by kernel_rfl),hB,SX.cells_sub hM [20,21,22,23] (by kernel_rfl),hIj.step hy (by simpa using h95)⟩
    ·skip
     refine wp_exit ?_
     refine hK65 _ _ ?_
     refine wp_seq_k fun K103 hK103=>?_
     refine wp_seq_k fun K104 hK104=>?_
     have hw9:=hIj.all (le_of_dec h78)
     have hall:∀ y∈c.blocks,0≤y.params∧y.params≤999:=fun y hy=>by have:=List.all_eq_true.1 hw9.symm y hy; unfold P.within at this; simpa using this
     have hcp:0≤c.params:=by have:=h60; simp only [Bool.or_eq_false_iff,Bool.not_eq_false'] at this; have:=this.1.1; unfold P.rightHead P.within at this; simp only [Bool.and_eq_true,decide_eq_true_eq] at this; exact this.1.1.1
     refine SX.region_q0 [.ld [],.ld [1],.ld [],.ld []] [1,3,11,12,13,58,59,60,70,71,72] [(.e 1 (.P n5)),(.e 3 (.I (totW c.blocks))),(.e 11 (.slice A1 c.blocks.length k1)),(.e 12 (.I ((c.blocks.length:Nat):Int))),(.e 13 (.I ((c.blocks.length:Nat):Int))),(.e 58 (.slice A1 c.blocks.length k1)),(.e 59 (.I ((c.blocks.length:Nat):Int))),(.e 60 (.I ((j:Nat):Int))),(.e 70 (.slice A1 c.blocks.length k1)),(.e 71 (.I ((c.blocks.length:Nat):Int))),(.e 72 (.I 0))] hR hM mix (by kernel_rfl) (by kernel_rfl) (by kernel_rfl) (by kernel_rfl) ?_
     clear hR hM; intro a105 w106 hR hb107 hM
     replace hB:=hB.tr hb107
     refine hK104 _ _ ?_
     refine wp_block ?_
     refine wp_loop_ghost (fun m110 a' w'=>∃ m:Nat,m110=c.blocks.length-m∧m≤c.blocks.length∧SX.RSt 81 [] [(.e 1 (.P n5)),(.e 3 (.I (totW c.blocks))),(.e 11 (.slice A1 c.blocks.length k1)),(.e 12 (.I ((c.blocks.length:Nat):Int))),(.e 13 (.I ((c.blocks.length:Nat):Int))),(.e 58 (.slice A1 c.blocks.length k1)),(.e 59 (.I ((c.blocks.length:Nat):Int))),(.e 60 (.I ((j:Nat):Int))),(.e 70 (.slice A1 c.blocks.length k1)),(.e 71 (.I ((c.blocks.length:Nat):Int))),(.e 72 (.I ((m:Nat):Int)))] a'∧Below w.heap.size w w'∧SX.Cells w' [(⟨n5,0,none⟩,(.I c.params)),(⟨n5,1,none⟩,(.slice A1 c.blocks.length k1)),(⟨n5,2,none⟩,(.slice A2 c.contexts.length k2)),(⟨n5,3,none⟩,(.slice A3 c.objects.length k3))]∧Upto c.blocks (fun _ b=>P.rightBlock c b) (m)) (c.blocks.length-0) ⟨0,rfl,Nat.zero_le _,hR.keep (ts:=[1,3,11,12,13,58,59,60,70,71,72]) (by kernel_rfl),hB,hM,Upto.zero⟩ ?_
     clear hR hM hB
     rintro m110 a108 w109 ⟨m,hm110,hlem,hR,hB,hM,hIm⟩
     refine wp_seq_k fun K111 hK111=>?_
     refine SX.region_q0 [.ld []] [1,3,11,12,13,58,59,60,70,71,72,73] [(.e 1 (.P n5)),(.e 3 (.I (totW c.blocks))),(.e 11 (.slice A1 c.blocks.length k1)),(.e 12 (.I ((c.blocks.length:Nat):Int))),(.e 13 (.I ((c.blocks.length:Nat):Int))),(.e 58 (.slice A1 c.blocks.length k1)),(.e 59 (.I ((c.blocks.length:Nat):Int))),(.e 60 (.I ((j:Nat):Int))),(.e 70 (.slice A1 c.blocks.length k1)),(.e 71 (.I ((c.blocks.length:Nat):Int))),(.e 72 (.I ((m:Nat):Int))),(.e 73 (.bool (decide (((m:Nat):Int)<((c.blocks.length:Nat):Int)))))] hR hM mix (by kernel_rfl) (by kernel_rfl) (by kernel_rfl) (by kernel_rfl) ?_
     clear hR hM; intro a112 w113 hR hb114 hM
     replace hB:=hB.tr hb114
     refine hK111 _ _ ?_
     refine wp_seq_k fun K115 hK115=>?_
     refine SX.cond_ (decide (((m:Nat):Int)<((c.blocks.length:Nat):Int))) hR (by kernel_rfl) (fun h116=>?_) (fun h116=>?_)
     ·skip
      refine wp_skip ?_
      refine hK115 _ _ ?_
      refine wp_seq_k fun K117 hK117=>?_
      refine wp_block ?_
      refine wp_seq_k fun K118 hK118=>?_
      have hlt:m<c.blocks.length:=lt_of_dec h116
      obtain ⟨y,hy⟩:=get_of_lt hlt
      obtain ⟨bby,boy,hAy,B1y,j1y,B2y,j2y,B3y,j3y,B4y,j4y,hsy,hbly,cb0y,cb1y,cb2y,cb3y,cb4y,cb5y,cb6y,cb7y,cb8y,cb9y⟩:=h0.2.1.elem hy
      subst hAy; unfold Shape at hsy
      have hoy:bby<w.heap.size:=World.block_lt_of_cell? w _ cb0y
      replace hM:=(SX.cells_add (cell_below hB cb0y) (SX.cells_add (cell_below hB cb1y) (SX.cells_add (cell_below hB cb2y) (SX.cells_add (cell_below hB cb3y) (SX.cells_add (cell_below hB cb4y) (SX.cells_add (cell_below hB cb5y) (SX.cells_add (cell_below hB cb6y) (SX.cells_add (cell_below hB cb7y) (SX.cells_add (cell_below hB cb8y) (SX.cells_add (cell_below hB cb9y) hM))))))))))
      refine SX.region_l ?_
      refine SX.list_q (κ:=[]) 0 2 [.ix ⟨bby,boy+m*10,none⟩,.ld [0,1,2,3,4,5,6,7,8,9]] [1,3,11,12,13,58,59,60,70,71,72,75] [(.e 1 (.P n5)),(.e 3 (.I (totW c.blocks))),(.e 11 (.slice (some ⟨bby,boy,none⟩) c.blocks.length k1)),(.e 12 (.I ((c.blocks.length:Nat):Int))),(.e 13 (.I ((c.blocks.length:Nat):Int))),(.e 58 (.slice (some ⟨bby,boy,none⟩) c.blocks.length k1)),(.e 59 (.I ((c.blocks.length:Nat):Int))),(.e 60 (.I ((j:Nat):Int))),(.e 70 (.slice (some ⟨bby,boy,none⟩) c.blocks.length k1)),(.e 71 (.I ((c.blocks.length:Nat):Int))),(.e 72 (.I ((m:Nat):Int))),(.e 75 (.agg #[.I y.params,.slice B1y y.ops.length j1y,.I y.term.kind,.I y.term.a,.I y.term.n,.slice B2y y.term.args.length j2y,.I y.term.b0,.slice B3y y.term.args0.length j3y,.I y.term.b1,.slice B4y y.term.args1.length j4y]))] [([],⟨bby,boy,none⟩,c.blocks.length,((m:Nat):Int),10,⟨bby,boy+m*10,none⟩)] [] [] [] hR hM (by kernel_rfl) (by kernel_rfl) ⟨fun hg=>SX.ix_ok (by omega),trivial⟩ trivial (fun w' hb' hM'=>trivial) (fun w' hb' hM'=>trivial) ?_
      clear hR hM; intro a119 w120 hR hb121 hM
      replace hB:=hB.tr hb121
      obtain ⟨n125,hn125⟩:∃ n,w120.heap.size=n:=⟨_,rfl⟩
      have hzn125:w.heap.size≤n125:=by have:=hB.size; omega
      refine SX.list_alloc 2 n125 [(.I 0),(.slice none 0 0),(.I 0),(.I 0),(.I 0),(.slice none 0 0),(.I 0),(.slice none 0 0),(.I 0),(.slice none 0 0)] 62 ((.e 9 (.P n125))::[(.e 1 (.P n5)),(.e 3 (.I (totW c.blocks))),(.e 11 (.slice (some ⟨bby,boy,none⟩) c.blocks.length k1)),(.e 12 (.I ((c.blocks.length:Nat):Int))),(.e 13 (.I ((c.blocks.length:Nat):Int))),(.e 58 (.slice (some ⟨bby,boy,none⟩) c.blocks.length k1)),(.e 59 (.I ((c.blocks.length:Nat):Int))),(.e 60 (.I ((j:Nat):Int))),(.e 70 (.slice (some ⟨bby,boy,none⟩) c.blocks.length k1)),(.e 71 (.I ((c.blocks.length:Nat):Int))),(.e 72 (.I ((m:Nat):Int))),(.e 75 (.agg #[.I y.params,.slice B1y y.ops.length j1y,.I y.term.kind,.I y.term.a,.I y.term.n,.slice B2y y.term.args.length j2y,.I y.term.b0,.slice B3y y.term.args0.length j3y,.I y.term.b1,.slice B4y y.term.args1.length j4y]))]) hR hM hn125 (by kernel_rfl) ?_
      clear hR hM; intro a122 w123 hR hb124 hM hkn125 hln125 hnen125
      replace hB:=hB.tr hb124
      replace hR:SX.RSt 81 [] [(.e 1 (.P n5)),(.e 3 (.I (totW c.blocks))),(.e 9 (.P n125)),(.e 11 (.slice (some ⟨bby,boy,none⟩) c.blocks.length k1)),(.e 12 (.I ((c.blocks.length:Nat):Int))),(.e 13 (.I ((c.blocks.length:Nat):Int))),(.e 58 (.slice (some ⟨bby,boy,none⟩) c.blocks.length k1)),(.e 59 (.I ((c.blocks.length:Nat):Int))),(.e 60 (.I ((j:Nat):Int))),(.e 70 (.slice (some ⟨bby,boy,none⟩) c.blocks.length k1)),(.e 71 (.I ((c.blocks.length:Nat):Int))),(.e 72 (.I ((m:Nat):Int))),(.e 75 (.agg #[.I y.params,.slice B1y y.ops.length j1y,.I y.term.kind,.I y.term.a,.I y.term.n,.slice B2y y.term.args.length j2y,.I y.term.b0,.slice B3y y.term.args0.length j3y,.I y.term.b1,.slice B4y y.term.args1.length j4y]))] a122:=hR.keep (ts:=[1,3,9,11,12,13,58,59,60,70,71,72,75]) (by kernel_rfl)
      refine SX.list_store 3 [(0,(.I y.params)),(1,(.slice B1y y.ops.length j1y)),(2,(.I y.term.kind)),(3,(.I y.term.a)),(4,(.I y.term.n)),(5,(.slice B2y y.term.args.length j2y)),(6,(.I y.term.b0)),(7,(.slice B3y y.term.args0.length j3y)),(8,(.I y.term.b1)),(9,(.slice B4y y.term.args1.length j4y))] [(.I y.params),(.slice B1y y.ops.length j1y),(.I y.term.kind),(.I y.term.a),(.I y.term.n),(.slice B2y y.term.args.length j2y),(.I y.term.b0),(.slice B3y y.term.args0.length j3y),(.I y.term.b1),(.slice B4y y.term.args1.length j4y)] [(⟨bby,boy+m*10,none⟩,(.I y.params)),(⟨bby,boy+m*10+1,none⟩,(.slice B1y y.ops.length j1y)),(⟨bby,boy+m*10+2,none⟩,(.I y.term.kind)),(⟨bby,boy+m*10+3,none⟩,(.I y.term.a)),(⟨bby,boy+m*10+4,none⟩,(.I y.term.n)),(⟨bby,boy+m*10+5,none⟩,(.slice B2y y.term.args.length j2y)),(⟨bby,boy+m*10+6,none⟩,(.I y.term.b0)),(⟨bby,boy+m*10+7,none⟩,(.slice B3y y.term.args0.length j3y)),(⟨bby,boy+m*10+8,none⟩,(.I y.term.b1)),(⟨bby,boy+m*10+9,none⟩,(.slice B4y y.term.args1.length j4y)),(⟨n5,0,none⟩,(.I c.params)),(⟨n5,1,none⟩,(.slice (some ⟨bby,boy,none⟩) c.blocks.length k1)),(⟨n5,2,none⟩,(.slice A2 c.contexts.length k2)),(⟨n5,3,none⟩,(.slice A3 c.objects.length k3))] [(⟨n125,0,none⟩,(.I y.params)),(⟨n125,1,none⟩,(.slice B1y y.ops.length j1y)),(⟨n125,2,none⟩,(.I y.term.kind)),(⟨n125,3,none⟩,(.I y.term.a)),(⟨n125,4,none⟩,(.I y.term.n)),(⟨n125,5,none⟩,(.slice B2y y.term.args.length j2y)),(⟨n125,6,none⟩,(.I y.term.b0)),(⟨n125,7,none⟩,(.slice B3y y.term.args0.length j3y)),(⟨n125,8,none⟩,(.I y.term.b1)),(⟨n125,9,none⟩,(.slice B4y y.term.args1.length j4y)),(⟨bby,boy+m*10,none⟩,(.I y.params)),(⟨bby,boy+m*10+1,none⟩,(.slice B1y y.ops.length j1y)),(⟨bby,boy+m*10+2,none⟩,(.I y.term.kind)),(⟨bby,boy+m*10+3,none⟩,(.I y.term.a)),(⟨bby,boy+m*10+4,none⟩,(.I y.term.n)),(⟨bby,boy+m*10+5,none⟩,(.slice B2y y.term.args.length j2y)),(⟨bby,boy+m*10+6,none⟩,(.I y.term.b0)),(⟨bby,boy+m*10+7,none⟩,(.slice B3y y.term.args0.length j3y)),(⟨bby,boy+m*10+8,none⟩,(.I y.term.b1)),(⟨bby,boy+m*10+9,none⟩,(.slice B4y y.term.args1.length j4y)),(⟨n5,0,none⟩,(.I c.params)),(⟨n5,1,none⟩,(.slice (some ⟨bby,boy,none⟩) c.blocks.length k1)),(⟨n5,2,none⟩,(.slice A2 c.contexts.length k2)),(⟨n5,3,none⟩,(.slice A3 c.objects.length k3))] hR (SX.cells_sub hM [0,1,2,3,4,5,6,7,8,9,10,11,12,13] (by kernel_rfl)) hnen125 hkn125 (by kernel_rfl) (by kernel_rfl) (by kernel_rfl) ?_
      clear hR hM hkn125; intro a126 w127 hR hb128 hM hkn125
      replace hB:=hB.trans (hb128.below (by omega))
      refine SX.list_end 4 (by kernel_rfl) ?_
      refine hK118 _ _ ?_
      refine wp_seq_k fun K129 hK129=>?_
      refine SX.region_q [] [.ld [20,21,22,23],.ld [0,1,2,3,4,5,6,7,8,9],.cl (.bool (P.rightBlock c y)),.ld []] [1,3,11,12,13,58,59,60,70,71,72,79] [(.e 1 (.P n5)),(.e 3 (.I (totW c.blocks))),(.e 11 (.slice (some ⟨bby,boy,none⟩) c.blocks.length k1)),(.e 12 (.I ((c.blocks.length:Nat):Int))),(.e 13 (.I ((c.blocks.length:Nat):Int))),(.e 58 (.slice (some ⟨bby,boy,none⟩) c.blocks.length k1)),(.e 59 (.I ((c.blocks.length:Nat):Int))),(.e 60 (.I ((j:Nat):Int))),(.e 70 (.slice (some ⟨bby,boy,none⟩) c.blocks.length k1)),(.e 71 (.I ((c.blocks.length:Nat):Int))),(.e 72 (.I ((m:Nat):Int))),(.e 79 (.bool (!(P.rightBlock c y))))] [] [] [([],85,#[(.agg #[.I c.params,.slice (some ⟨bby,boy,none⟩) c.blocks.length k1,.slice A2 c.contexts.length k2,.slice A3 c.objects.length k3]),(.agg #[.I y.params,.slice B1y y.ops.length j1y,.I y.term.kind,.I y.term.a,.I y.term.n,.slice B2y y.term.args.length j2y,.I y.term.b0,.slice B3y y.term.args0.length j3y,.I y.term.b1,.slice B4y y.term.args1.length j4y])],(.bool (P.rightBlock c y)))] [] hR hM mix (by kernel_rfl) (by kernel_rfl) (by kernel_rfl) (by kernel_rfl) trivial trivial (fun w' hb' hM'=>trivial) (fun w' hb' hM'=>⟨fun hg=>rightBlock_any c _ _ _ _ (h0.below (hB.tr hb')) y _ _ _ _ (hbly.below (hB.tr hb')) hcp (hall y (List.mem_of_getElem? hy)),trivial⟩) ?_
      clear hR hM; intro a130 w131 hR hb132 hM
      replace hB:=hB.tr hb132
      replace hkn125:=SX.blk_below hkn125 hb132
      refine hK129 _ _ ?_
      refine SX.cond_ (!(P.rightBlock c y)) hR (by kernel_rfl) (fun h133=>?_) (fun h133=>?_)
      ·skip
       refine wp_seq_k fun K134 hK134=>?_
       refine SX.region_q0 [.ld []] [1,2,3,11,12,13,58,59,60,70,71,72] [(.e 1 (.P n5)),(.e 2 (.I 4)),(.e 3 (.I (totW c.blocks))),(.e 11 (.slice (some ⟨bby,boy,none⟩) c.blocks.length k1)),(.e 12 (.I ((c.blocks.length:Nat):Int))),(.e 13 (.I ((c.blocks.length:Nat):Int))),(.e 58 (.slice (some ⟨bby,boy,none⟩) c.blocks.length k1)),(.e 59 (.I ((c.blocks.length:Nat):Int))),(.e 60 (.I ((j:Nat):Int))),(.e 70 (.slice (some ⟨bby,boy,none⟩) c.blocks.length k1)),(.e 71 (.I ((c.blocks.length:Nat):Int))),(.e 72 (.I ((m:Nat):Int)))] hR hM mix (by kernel_rfl) (by kernel_rfl) (by kernel_rfl) (by kernel_rfl) ?_
       clear hR hM; intro a135 w136 hR hb137 hM
       replace hB:=hB.tr hb137
       replace hkn125:=SX.blk_below hkn125 hb137
       refine hK134 _ _ ?_
       refine wp_ret ?_
       try simp only [Exit.then,Exit.inBlock,Nat.reduceEqDiff,↓reduceIte]
       refine SX.ret_ 2 (.I 4) Try.results46 hR (by kernel_rfl) ?_
       clear hR hM mix hK1 hzn5 hb4 hkn5 hln5 hn5 hb8 hK9 hb12 hK13 hK14 hb17 hm20 hK21 hb24 hK25 hK45 hK46 hb49 hK55 hK56 hb59 hK65 hK66 hb69 hm72 hK73 hb76 hK77 hK103 hK104 hb107 hm110 hK111 hb114 hK115 hK117 hK118 hb121 hzn125 hb124 hkn125 hln125 hn125 hnen125 hb128 hK129 hb132 hK134 hb137
       refine ⟨ret_int ?_,hB⟩
       unfold P.check
       rw [lim_eq]
       simp only [h50,h60,← hw9,← all_no hy (by simpa using h133),Bool.not_true,Bool.false_eq_true,↓reduceIte]
      ·skip
       refine wp_skip ?_
       refine hK117 _ _ ?_
       refine SX.region_q [] [.nm (.I ((m+1:Nat):Int)),.ld []] [1,3,11,12,13,58,59,60,70,71,72] [(.e 1 (.P n5)),(.e 3 (.I (totW c.blocks))),(.e 11 (.slice (some ⟨bby,boy,none⟩) c.blocks.length k1)),(.e 12 (.I ((c.blocks.length:Nat):Int))),(.e 13 (.I ((c.blocks.length:Nat):Int))),(.e 58 (.slice (some ⟨bby,boy,none⟩) c.blocks.length k1)),(.e 59 (.I ((c.blocks.length:Nat):Int))),(.e 60 (.I ((j:Nat):Int))),(.e 70 (.slice (some ⟨bby,boy,none⟩) c.blocks.length k1)),(.e 71 (.I ((c.blocks.length:Nat):Int))),(.e 72 (.I ((m+1:Nat):Int)))] [] [] [] [([],(.I (IntKind.i64.wrap (((m:Nat):Int)+1))),(.I ((m+1:Nat):Int)))] hR hM mix (by kernel_rfl) (by kernel_rfl) (by kernel_rfl) (by kernel_rfl) trivial ⟨fun hg=>SX.wrap_ok (by omega),trivial⟩ (fun w' hb' hM'=>trivial) (fun w' hb' hM'=>trivial) ?_
       clear hR hM; intro a138 w139 hR hb140 hM
       replace hB:=hB.tr hb140
       replace hkn125:=SX.blk_below hkn125 hb140
       exact ⟨c.blocks.length-(m+1),by omega,m+1,rfl,by omega,hR.keep (ts:=[1,3,11,12,13,58,59,60,70,71,72]) (by kernel_rfl),hB,SX.cells_sub hM [20,21,22,23] (by kernel_rfl),hIm.step hy (by simpa using h133)⟩
     ·skip
      refine wp_exit ?_
      refine hK103 _ _ ?_
      refine wp_seq_k fun K141 hK141=>?_
      refine SX.region_q0 [.ld []] [1,2,3,11,12,13,58,59,60,70,71,72] [(.e 1 (.P n5)),(.e 2 (.I 0)),(.e 3 (.I (totW c.blocks))),(.e 11 (.slice A1 c.blocks.length k1)),(.e 12 (.I ((c.blocks.length:Nat):Int))),(.e 13 (.I ((c.blocks.length:Nat):Int))),(.e 58 (.slice A1 c.blocks.length k1)),(.e 59 (.I ((c.blocks.length:Nat):Int))),(.e 60 (.I ((j:Nat):Int))),(.e 70 (.slice A1 c.blocks.length k1)),(.e 71 (.I ((c.blocks.length:Nat):Int))),(.e 72 (.I ((m:Nat):Int)))] hR hM mix (by kernel_rfl) (by kernel_rfl) (by kernel_rfl) (by kernel_rfl) ?_
      clear hR hM; intro a142 w143 hR hb144 hM
      replace hB:=hB.tr hb144
      refine hK141 _ _ ?_
      refine wp_ret ?_
      try simp only [Exit.then,Exit.inBlock,Nat.reduceEqDiff,↓reduceIte]
      refine SX.ret_ 2 (.I 0) Try.results46 hR (by kernel_rfl) ?_
      clear hR hM mix hK1 hzn5 hb4 hkn5 hln5 hn5 hb8 hK9 hb12 hK13 hK14 hb17 hm20 hK21 hb24 hK25 hK45 hK46 hb49 hK55 hK56 hb59 hK65 hK66 hb69 hm72 hK73 hb76 hK77 hK103 hK104 hb107 hm110 hK111 hb114 hK115 hK141 hb144
      refine ⟨ret_int ?_,hB⟩
      unfold P.check
      rw [lim_eq]
      simp only [h50,h60,← hw9,← hIm.all (le_of_dec h116),Bool.not_true,Bool.false_eq_true,↓reduceIte]
end Go.Proofs.Ytlkcidmmpeebeaa
