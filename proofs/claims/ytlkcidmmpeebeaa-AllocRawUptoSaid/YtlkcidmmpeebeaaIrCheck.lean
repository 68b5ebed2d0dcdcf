/- Proved: ir.CheckCode -/
import Derived.Test.YtlkcidmmpeebeaaRBlock
set_option linter.unusedVariables false
set_option linter.unusedSimpArgs false
namespace Go.Proofs.Ytlkcidmmpeebeaa
open Go.RowKit
set_option maxRecDepth 100000
theorem lim_eq (c:CodeD) (tot:Int):(decide (400<c.blocks.length)||decide (6000<tot)||decide (64<c.contexts.length)||decide (64<c.objects.length))=(((decide ((400:Int)<(c.blocks.length:Int))||decide (6000<tot))||decide ((64:Int)<(c.contexts.length:Int)))||decide ((64:Int)<(c.objects.length:Int))):=by
 have e1:decide (400<c.blocks.length)=decide ((400:Int)<(c.blocks.length:Int)):=by rw [Bool.eq_iff_iff]; simp only [decide_eq_true_eq]; omega
 have e2:decide (64<c.contexts.length)=decide ((64:Int)<(c.contexts.length:Int)):=by rw [Bool.eq_iff_iff]; simp only [decide_eq_true_eq]; omega
 have e3:decide (64<c.objects.length)=decide ((64:Int)<(c.objects.length:Int)):=by rw [Bool.eq_iff_iff]; simp only [decide_eq_true_eq]; omega
 rw [e1,e2,e3]

set_option maxHeartbeats 1000000 in
theorem irCheck_any (c:CodeD) (v1 v2 v3:Value) (w:World) (h:CodeAt w v1 v2 v3 c):Calls Try.prog 46 #[(.agg #[.I c.params,v1,v2,v3])] w fun e w'=>e=.returned (.I (P.check c (totW c.blocks)))∧Below w.heap.size w w':=by
 have h0:=h
 obtain ⟨A1,k1,rfl,s1⟩:=h.2.1.shape
 obtain ⟨A2,k2,rfl,s2⟩:=h.2.2.1.shape
 obtain ⟨A3,k3,rfl,s3⟩:=h.2.2.2.shape
 unfold Shape at s1 s2 s3
 have mix:=mixed
 have hB:Below w.heap.size w w:=Below.refl _ _
 have hM:SX.Cells w []:=SX.cells_nil
 refine SX.enter [(.agg #[.I c.params,.slice A1 c.blocks.length k1,.slice A2 c.contexts.length k2,.slice A3 c.objects.length k3])] 81 Try.func46 rfl rfl (by kernel_rfl) ?_
 intro a hR
 refine wp_seq_k fun K1 hK1=>?_
 refine SX.region_l ?_
 obtain ⟨n5,hn5⟩:∃ n,w.heap.size=n:=⟨_,rfl⟩
 have hzn5:w.heap.size≤n5:=by have:=hB.size; omega
 refine SX.list_box 0 n5 [(.I c.params),(.slice A1 c.blocks.length k1),(.slice A2 c.contexts.length k2),(.slice A3 c.objects.length k3)] 26 ((.e 1 (.P n5))::[(.e 0 (.agg #[.I c.params,.slice A1 c.blocks.length k1,.slice A2 c.contexts.length k2,.slice A3 c.objects.length k3]))]) [(⟨n5,0,none⟩,(.I c.params)),(⟨n5,1,none⟩,(.slice A1 c.blocks.length k1)),(⟨n5,2,none⟩,(.slice A2 c.contexts.length k2)),(⟨n5,3,none⟩,(.slice A3 c.objects.length k3))] hR hM hn5 (by kernel_rfl) (by kernel_rfl) ?_
 clear hR hM; intro a2 w3 hR hb4 hM hkn5 hln5
 replace hB:=hB.tr hb4
 replace hR:SX.RSt 81 [] [(.e 1 (.P n5))] a2:=hR.keep (ts:=[1]) (by kernel_rfl)
 refine SX.list_q0 (κ:=[]) 1 1 [.ld []] [1] [(.e 1 (.P n5))] hR hM (by kernel_rfl) (by kernel_rfl) ?_
 clear hR hM; intro a6 w7 hR hb8 hM
 replace hB:=hB.tr hb8
 replace hkn5:=SX.blk_below hkn5 hb8
 refine SX.list_end 2 (by kernel_rfl) ?_
 refine hK1 _ _ ?_
 refine SX.qs [.ld []] [1,3] [(.e 3 (.I 0))] hR hM hB mix fun a9 w10 hR hb11 hB hM=>?_
 replace hkn5:=SX.blk_below hkn5 hb11
 refine wp_seq_k fun K12 hK12=>?_
 refine SX.qs [.ld [],.ld [1],.ld [],.ld []] [1,3,11,12,13] [(.e 11 (.slice A1 c.blocks.length k1)),(.e 12 (.I (c.blocks.length:Int))),(.e 13 (.I 0))] hR hM hB mix fun a13 w14 hR hb15 hB hM=>?_
 replace hkn5:=SX.blk_below hkn5 hb15
 refine wp_block ?_
 refine wp_loop_ghost (fun m18 a' w'=>∃ k:Nat,m18=c.blocks.length-k∧k≤c.blocks.length∧SX.RSt 81 [] [(.e 1 (.P n5)),(.e 3 (.I (totW (c.blocks.take (k))))),(.e 11 (.slice A1 c.blocks.length k1)),(.e 12 (.I (c.blocks.length:Int))),(.e 13 (.I (k:Int)))] a'∧Below w.heap.size w w'∧SX.Cells w' [(⟨n5,0,none⟩,(.I c.params)),(⟨n5,1,none⟩,(.slice A1 c.blocks.length k1)),(⟨n5,2,none⟩,(.slice A2 c.contexts.length k2)),(⟨n5,3,none⟩,(.slice A3 c.objects.length k3))]∧True) (c.blocks.length-0) ⟨0,rfl,Nat.zero_le _,hR.keep (ts:=[1,3,11,12,13]) (by kernel_rfl),hB,hM,trivial⟩ ?_
 clear hR hM hB
 rintro m18 a16 w17 ⟨k,hm18,hlek,hR,hB,hM,hIk⟩
 refine SX.qs [.ld []] [1,3,11,12,13,14] [(.e 14 (.bool (decide ((k:Int)<(c.blocks.length:Int)))))] hR hM hB mix fun a19 w20 hR hb21 hB hM=>?_
 refine wp_seq_k fun K22 hK22=>?_
 refine SX.cond_ (decide ((k:Int)<(c.blocks.length:Int))) hR (by kernel_rfl) (fun h23=>?_) (fun h23=>?_)
 ·skip
  refine wp_skip ?_
  refine hK22 _ _ ?_
  refine wp_seq_k fun K24 hK24=>?_
  refine wp_block ?_
  refine wp_seq_k fun K25 hK25=>?_
  have hlt:k<c.blocks.length:=lt_of_dec h23
  obtain ⟨x,hx⟩:=get_of_lt hlt
  obtain ⟨bbx,box,hAx,B1x,j1x,B2x,j2x,B3x,j3x,B4x,j4x,hsx,hblx,cb0x,cb1x,cb2x,cb3x,cb4x,cb5x,cb6x,cb7x,cb8x,cb9x⟩:=h0.2.1.elem hx
  subst hAx; unfold Shape at hsx
  have hox:bbx<w.heap.size:=World.block_lt_of_cell? w _ cb0x
  replace hM:=(SX.cells_add (cell_below hB cb0x) (SX.cells_add (cell_below hB cb1x) (SX.cells_add (cell_below hB cb2x) (SX.cells_add (cell_below hB cb3x) (SX.cells_add (cell_below hB cb4x) (SX.cells_add (cell_below hB cb5x) (SX.cells_add (cell_below hB cb6x) (SX.cells_add (cell_below hB cb7x) (SX.cells_add (cell_below hB cb8x) (SX.cells_add (cell_below hB cb9x) hM))))))))))
  refine SX.region_l ?_
  refine SX.list_q (κ:=[]) 0 2 [.ix ⟨bbx,box+k*10,none⟩,.ld [0,1,2,3,4,5,6,7,8,9]] [1,3,11,12,13,16] [(.e 1 (.P n5)),(.e 3 (.I (totW (c.blocks.take (k))))),(.e 11 (.slice (some ⟨bbx,box,none⟩) c.blocks.length k1)),(.e 12 (.I (c.blocks.length:Int))),(.e 13 (.I (k:Int))),(.e 16 (.agg #[.I x.params,.slice B1x x.ops.length j1x,.I x.term.kind,.I x.term.a,.I x.term.n,.slice B2x x.term.args.length j2x,.I x.term.b0,.slice B3x x.term.args0.length j3x,.I x.term.b1,.slice B4x x.term.args1.length j4x]))] [([],⟨bbx,box,none⟩,c.blocks.length,(k:Int),10,⟨bbx,box+k*10,none⟩)] [] [] [] hR hM (by kernel_rfl) (by kernel_rfl) ⟨fun hg=>SX.ix_ok (by omega),trivial⟩ trivial (fun w' hb' hM'=>trivial) (fun w' hb' hM'=>trivial) ?_
  clear hR hM; intro a26 w27 hR hb28 hM
  replace hB:=hB.tr hb28
  obtain ⟨n32,hn32⟩:∃ n,w27.heap.size=n:=⟨_,rfl⟩
  have hzn32:w.heap.size≤n32:=by have:=hB.size; omega
  refine SX.list_alloc 2 n32 [(.I 0),(.slice none 0 0),(.I 0),(.I 0),(.I 0),(.slice none 0 0),(.I 0),(.slice none 0 0),(.I 0),(.slice none 0 0)] 62 ((.e 5 (.P n32))::[(.e 1 (.P n5)),(.e 3 (.I (totW (c.blocks.take (k))))),(.e 11 (.slice (some ⟨bbx,box,none⟩) c.blocks.length k1)),(.e 12 (.I (c.blocks.length:Int))),(.e 13 (.I (k:Int))),(.e 16 (.agg #[.I x.params,.slice B1x x.ops.length j1x,.I x.term.kind,.I x.term.a,.I x.term.n,.slice B2x x.term.args.length j2x,.I x.term.b0,.slice B3x x.term.args0.length j3x,.I x.term.b1,.slice B4x x.term.args1.length j4x]))]) hR hM hn32 (by kernel_rfl) ?_
  clear hR hM; intro a29 w30 hR hb31 hM hkn32 hln32 hnen32
  replace hB:=hB.tr hb31
  replace hR:SX.RSt 81 [] [(.e 1 (.P n5)),(.e 3 (.I (totW (c.blocks.take (k))))),(.e 5 (.P n32)),(.e 11 (.slice (some ⟨bbx,box,none⟩) c.blocks.length k1)),(.e 12 (.I (c.blocks.length:Int))),(.e 13 (.I (k:Int))),(.e 16 (.agg #[.I x.params,.slice B1x x.ops.length j1x,.I x.term.kind,.I x.term.a,.I x.term.n,.slice B2x x.term.args.length j2x,.I x.term.b0,.slice B3x x.term.args0.length j3x,.I x.term.b1,.slice B4x x.term.args1.length j4x]))] a29:=hR.keep (ts:=[1,3,5,11,12,13,16]) (by kernel_rfl)
  refine SX.list_store 3 [(0,(.I x.params)),(1,(.slice B1x x.ops.length j1x)),(2,(.I x.term.kind)),(3,(.I x.term.a)),(4,(.I x.term.n)),(5,(.slice B2x x.term.args.length j2x)),(6,(.I x.term.b0)),(7,(.slice B3x x.term.args0.length j3x)),(8,(.I x.term.b1)),(9,(.slice B4x x.term.args1.length j4x))] [(.I x.params),(.slice B1x x.ops.length j1x),(.I x.term.kind),(.I x.term.a),(.I x.term.n),(.slice B2x x.term.args.length j2x),(.I x.term.b0),(.slice B3x x.term.args0.length j3x),(.I x.term.b1),(.slice B4x x.term.args1.length j4x)] [(⟨bbx,box+k*10,none⟩,(.I x.params)),(⟨bbx,box+k*10+1,none⟩,(.slice B1x x.ops.length j1x)),(⟨bbx,box+k*10+2,none⟩,(.I x.term.kind)),(⟨bbx,box+k*10+3,none⟩,(.I x.term.a)),(⟨bbx,box+k*10+4,none⟩,(.I x.term.n)),(⟨bbx,box+k*10+5,none⟩,(.slice B2x x.term.args.length j2x)),(⟨bbx,box+k*10+6,none⟩,(.I x.term.b0)),(⟨bbx,box+k*10+7,none⟩,(.slice B3x x.term.args0.length j3x)),(⟨bbx,box+k*10+8,none⟩,(.I x.term.b1)),(⟨bbx,box+k*10+9,none⟩,(.slice B4x x.term.args1.length j4x)),(⟨n5,0,none⟩,(.I c.params)),(⟨n5,1,none⟩,(.slice (some ⟨bbx,box,none⟩) c.blocks.length k1)),(⟨n5,2,none⟩,(.slice A2 c.contexts.length k2)),(⟨n5,3,none⟩,(.slice A3 c.objects.length k3))] [(⟨n32,0,none⟩,(.I x.params)),(⟨n32,1,none⟩,(.slice B1x x.ops.length j1x)),(⟨n32,2,none⟩,(.I x.term.kind)),(⟨n32,3,none⟩,(.I x.term.a)),(⟨n32,4,none⟩,(.I x.term.n)),(⟨n32,5,none⟩,(.slice B2x x.term.args.length j2x)),(⟨n32,6,none⟩,(.I x.term.b0)),(⟨n32,7,none⟩,(.slice B3x x.term.args0.length j3x)),(⟨n32,8,none⟩,(.I x.term.b1)),(⟨n32,9,none⟩,(.slice B4x x.term.args1.length j4x)),(⟨bbx,box+k*10,none⟩,(.I x.params)),(⟨bbx,box+k*10+1,none⟩,(.slice B1x x.ops.length j1x)),(⟨bbx,box+k*10+2,none⟩,(.I x.term.kind)),(⟨bbx,box+k*10+3,none⟩,(.I x.term.a)),(⟨bbx,box+k*10+4,none⟩,(.I x.term.n)),(⟨bbx,box+k*10+5,none⟩,(.slice B2x x.term.args.length j2x)),(⟨bbx,box+k*10+6,none⟩,(.I x.term.b0)),(⟨bbx,box+k*10+7,none⟩,(.slice B3x x.term.args0.length j3x)),(⟨bbx,box+k*10+8,none⟩,(.I x.term.b1)),(⟨bbx,box+k*10+9,none⟩,(.slice B4x x.term.args1.length j4x)),(⟨n5,0,none⟩,(.I c.params)),(⟨n5,1,none⟩,(.slice (some ⟨bbx,box,none⟩) c.blocks.length k1)),(⟨n5,2,none⟩,(.slice A2 c.contexts.length k2)),(⟨n5,3,none⟩,(.slice A3 c.objects.length k3))] hR (SX.cells_sub hM [0,1,2,3,4,5,6,7,8,9,10,11,12,13] (by kernel_rfl)) hnen32 hkn32 (by kernel_rfl) (by kernel_rfl) (by kernel_rfl) ?_
  clear hR hM hkn32; intro a33 w34 hR hb35 hM hkn32
  replace hB:=hB.trans (hb35.below (by omega))
  refine SX.list_end 4 (by kernel_rfl) ?_
  refine hK25 _ _ ?_
  refine SX.qf0 [] [.ld [],.ld [],.ld [1],.ld [],.nm (.I (totW (c.blocks.take (k+1)))),.ld []] [1,3,11,12,13] [(.e 3 (.I (totW (c.blocks.take (k+1)))))] [] [] [] [([],(.I (IntKind.i64.wrap ((totW (c.blocks.take (k)))+(x.ops.length:Int)))),(.I (totW (c.blocks.take (k+1)))))] hR hM hB mix trivial ⟨fun hg=>by rw [totW_step hx],trivial⟩ (fun w' hb' hM'=>trivial) (fun w' hb' hM'=>trivial) fun a36 w37 hR hb38 hB hM=>?_
  replace hkn32:=SX.blk_below hkn32 hb38
  refine hK24 _ _ ?_
  refine SX.qf0 [] [.nm (.I ((k+1:Nat):Int)),.ld []] [1,3,11,12,13] [(.e 13 (.I ((k+1:Nat):Int)))] [] [] [] [([],(.I (IntKind.i64.wrap ((k:Int)+1))),(.I ((k+1:Nat):Int)))] hR hM hB mix trivial ⟨fun hg=>SX.wrap_ok (by omega),trivial⟩ (fun w' hb' hM'=>trivial) (fun w' hb' hM'=>trivial) fun a39 w40 hR hb41 hB hM=>?_
  replace hkn32:=SX.blk_below hkn32 hb41
  exact ⟨c.blocks.length-(k+1),by omega,k+1,rfl,by omega,hR.keep (ts:=[1,3,11,12,13]) (by kernel_rfl),hB,SX.cells_sub hM [20,21,22,23] (by kernel_rfl),trivial⟩
 ·skip
  refine wp_exit ?_
  refine hK12 _ _ ?_
  refine wp_seq_k fun K42 hK42=>?_
  obtain rfl:k=c.blocks.length:=by have:=le_of_dec h23; omega
  rw [List.take_length] at hR
  refine SX.qf [(4,decide (400<(c.blocks.length:Int))),(8,(decide (400<(c.blocks.length:Int))||decide (6000<(totW c.blocks)))),(14,((decide (400<(c.blocks.length:Int))||decide (6000<(totW c.blocks)))||decide (64<(c.contexts.length:Int))))] [.ld [],.ld [1],.ld [],.ld [],.ld [],.ld [],.ld [],.pk,.ld [],.ld [],.ld [2],.ld [],.ld [],.pk,.ld [],.ld [],.ld [3],.ld [],.ld [],.pk] [1,3,11,12,13,42] [(.e 42 (.bool (((decide (400<(c.blocks.length:Int))||decide (6000<(totW c.blocks)))||decide (64<(c.contexts.length:Int)))||decide (64<(c.objects.length:Int)))))] [] [] [] [] hR hM hB mix trivial trivial (fun w' hb' hM'=>trivial) (fun w' hb' hM'=>trivial) fun a43 w44 hR hb45 hB hM=>?_
  refine SX.cond_ (((decide (400<(c.blocks.length:Int))||decide (6000<(totW c.blocks)))||decide (64<(c.contexts.length:Int)))||decide (64<(c.objects.length:Int))) hR (by kernel_rfl) (fun h46=>?_) (fun h46=>?_)
  ·skip
   refine SX.qs [.ld []] [1,2,3,11,12,13] [(.e 2 (.I 5))] hR hM hB mix fun a47 w48 hR hb49 hB hM=>?_
   refine wp_ret ?_
   try simp only [Exit.then,Exit.inBlock,Nat.reduceEqDiff,↓reduceIte]
   refine SX.ret_ 2 (.I 5) Try.results46 hR (by kernel_rfl) ?_
   clear hR hM mix hK1 hzn5 hb4 hkn5 hln5 hn5 hb8 hb11 hK12 hb15 hm18 hb21 hK22 hK42 hb45 hb49
   refine ⟨ret_int ?_,hB⟩
   unfold P.check
   rw [lim_eq]
   simp only [h46,Bool.false_eq_true,↓reduceIte]
  ·skip
   refine wp_skip ?_
   refine hK42 _ _ ?_
   refine wp_seq_k fun K50 hK50=>?_
   refine SX.qf [(3,(!(P.rightHead c))),(9,((!(P.rightHead c))||(!(P.rightContexts c.contexts))))] [.ld [0,1,2,3],.cl (.bool (P.rightHead c)),.ld [],.ld [],.ld [],.ld [2],.cl (.bool (P.rightContexts c.contexts)),.ld [],.pk,.ld [],.ld [0,1,2,3],.cl (.bool (P.rightObjects c.contexts.length [] c.objects)),.ld [],.pk] [1,3,11,12,13,56] [(.e 56 (.bool (((!(P.rightHead c))||(!(P.rightContexts c.contexts)))||(!(P.rightObjects c.contexts.length [] c.objects)))))] [] [] [([],81,#[(.agg #[.I c.params,.slice A1 c.blocks.length k1,.slice A2 c.contexts.length k2,.slice A3 c.objects.length k3])],(.bool (P.rightHead c))),([(3,false)],82,#[(.slice A2 c.contexts.length k2)],(.bool (P.rightContexts c.contexts))),([(9,false)],83,#[(.agg #[.I c.params,.slice A1 c.blocks.length k1,.slice A2 c.contexts.length k2,.slice A3 c.objects.length k3])],(.bool (P.rightObjects c.contexts.length [] c.objects)))] [] hR hM hB mix trivial trivial (fun w' hb' hM'=>trivial) (fun w' hb' hM'=>⟨fun hg=>rightHead_any c _ _ _ _ (h0.below (hB.tr hb')),fun hg=>rightContexts_any _ _ _ (h0.2.2.1.below (hB.tr hb')),fun hg=>rightObjects_any c _ _ _ _ (h0.below (hB.tr hb')),trivial⟩) fun a51 w52 hR hb53 hB hM=>?_
   refine SX.cond_ (((!(P.rightHead c))||(!(P.rightContexts c.contexts)))||(!(P.rightObjects c.contexts.length [] c.objects))) hR (by kernel_rfl) (fun h54=>?_) (fun h54=>?_)
   ·skip
    refine SX.qs [.ld []] [1,2,3,11,12,13] [(.e 2 (.I 4))] hR hM hB mix fun a55 w56 hR hb57 hB hM=>?_
    refine wp_ret ?_
    try simp only [Exit.then,Exit.inBlock,Nat.reduceEqDiff,↓reduceIte]
    refine SX.ret_ 2 (.I 4) Try.results46 hR (by kernel_rfl) ?_
    clear hR hM mix hK1 hzn5 hb4 hkn5 hln5 hn5 hb8 hb11 hK12 hb15 hm18 hb21 hK22 hK42 hb45 hK50 hb53 hb57
    refine ⟨ret_int ?_,hB⟩
    unfold P.check
    rw [lim_eq]
    simp only [h46,h54,Bool.false_eq_true,↓reduceIte]
   ·skip
    refine wp_skip ?_
    refine hK50 _ _ ?_
    refine wp_seq_k fun K58 hK58=>?_
    refine SX.qs [.ld [],.ld [1],.ld [],.ld []] [1,3,11,12,13,58,59,60] [(.e 58 (.slice A1 c.blocks.length k1)),(.e 59 (.I (c.blocks.length:Int))),(.e 60 (.I 0))] hR hM hB mix fun a59 w60 hR hb61 hB hM=>?_
    refine wp_block ?_
    refine wp_loop_ghost (fun m64 a' w'=>∃ j:Nat,m64=c.blocks.length-j∧j≤c.blocks.length∧SX.RSt 81 [] [(.e 1 (.P n5)),(.e 3 (.I (totW c.blocks))),(.e 11 (.slice A1 c.blocks.length k1)),(.e 12 (.I (c.blocks.length:Int))),(.e 13 (.I (c.blocks.length:Int))),(.e 58 (.slice A1 c.blocks.length k1)),(.e 59 (.I (c.blocks.length:Int))),(.e 60 (.I (j:Int)))] a'∧Below w.heap.size w w'∧SX.Cells w' [(⟨n5,0,none⟩,(.I c.params)),(⟨n5,1,none⟩,(.slice A1 c.blocks.length k1)),(⟨n5,2,none⟩,(.slice A2 c.contexts.length k2)),(⟨n5,3,none⟩,(.slice A3 c.objects.length k3))]∧Upto c.blocks (fun _ b=>P.within b.params 999) (j)) (c.blocks.length-0) ⟨0,rfl,Nat.zero_le _,hR.keep (ts:=[1,3,11,12,13,58,59,60]) (by kernel_rfl),hB,hM,Upto.zero⟩ ?_
    clear hR hM hB
    rintro m64 a62 w63 ⟨j,hm64,hlej,hR,hB,hM,hIj⟩
    refine SX.qs [.ld []] [1,3,11,12,13,58,59,60,61] [(.e 61 (.bool (decide ((j:Int)<(c.blocks.length:Int)))))] hR hM hB mix fun a65 w66 hR hb67 hB hM=>?_
    refine wp_seq_k fun K68 hK68=>?_
    refine SX.cond_ (decide ((j:Int)<(c.blocks.length:Int))) hR (by kernel_rfl) (fun h69=>?_) (fun h69=>?_)
    ·skip
     refine wp_skip ?_
     refine hK68 _ _ ?_
     refine wp_seq_k fun K70 hK70=>?_
     refine wp_block ?_
     refine wp_seq_k fun K71 hK71=>?_
     have hlt:j<c.blocks.length:=lt_of_dec h69
     obtain ⟨y,hy⟩:=get_of_lt hlt
     obtain ⟨bby,boy,hAy,B1y,j1y,B2y,j2y,B3y,j3y,B4y,j4y,hsy,hbly,cb0y,cb1y,cb2y,cb3y,cb4y,cb5y,cb6y,cb7y,cb8y,cb9y⟩:=h0.2.1.elem hy
     subst hAy; unfold Shape at hsy
     have hoy:bby<w.heap.size:=World.block_lt_of_cell? w _ cb0y
     replace hM:=(SX.cells_add (cell_below hB cb0y) (SX.cells_add (cell_below hB cb1y) (SX.cells_add (cell_below hB cb2y) (SX.cells_add (cell_below hB cb3y) (SX.cells_add (cell_below hB cb4y) (SX.cells_add (cell_below hB cb5y) (SX.cells_add (cell_below hB cb6y) (SX.cells_add (cell_below hB cb7y) (SX.cells_add (cell_below hB cb8y) (SX.cells_add (cell_below hB cb9y) hM))))))))))
     refine SX.region_l ?_
     refine SX.list_q (κ:=[]) 0 2 [.ix ⟨bby,boy+j*10,none⟩,.ld [0,1,2,3,4,5,6,7,8,9]] [1,3,11,12,13,58,59,60,63] [(.e 1 (.P n5)),(.e 3 (.I (totW c.blocks))),(.e 11 (.slice (some ⟨bby,boy,none⟩) c.blocks.length k1)),(.e 12 (.I (c.blocks.length:Int))),(.e 13 (.I (c.blocks.length:Int))),(.e 58 (.slice (some ⟨bby,boy,none⟩) c.blocks.length k1)),(.e 59 (.I (c.blocks.length:Int))),(.e 60 (.I (j:Int))),(.e 63 (.agg #[.I y.params,.slice B1y y.ops.length j1y,.I y.term.kind,.I y.term.a,.I y.term.n,.slice B2y y.term.args.length j2y,.I y.term.b0,.slice B3y y.term.args0.length j3y,.I y.term.b1,.slice B4y y.term.args1.length j4y]))] [([],⟨bby,boy,none⟩,c.blocks.length,(j:Int),10,⟨bby,boy+j*10,none⟩)] [] [] [] hR hM (by kernel_rfl) (by kernel_rfl) ⟨fun hg=>SX.ix_ok (by omega),trivial⟩ trivial (fun w' hb' hM'=>trivial) (fun w' hb' hM'=>trivial) ?_
     clear hR hM; intro a72 w73 hR hb74 hM
     replace hB:=hB.tr hb74
     obtain ⟨n78,hn78⟩:∃ n,w73.heap.size=n:=⟨_,rfl⟩
     have hzn78:w.heap.size≤n78:=by have:=hB.size; omega
     refine SX.list_alloc 2 n78 [(.I 0),(.slice none 0 0),(.I 0),(.I 0),(.I 0),(.slice none 0 0),(.I 0),(.slice none 0 0),(.I 0),(.slice none 0 0)] 62 ((.e 7 (.P n78))::[(.e 1 (.P n5)),(.e 3 (.I (totW c.blocks))),(.e 11 (.slice (some ⟨bby,boy,none⟩) c.blocks.length k1)),(.e 12 (.I (c.blocks.length:Int))),(.e 13 (.I (c.blocks.length:Int))),(.e 58 (.slice (some ⟨bby,boy,none⟩) c.blocks.length k1)),(.e 59 (.I (c.blocks.length:Int))),(.e 60 (.I (j:Int))),(.e 63 (.agg #[.I y.params,.slice B1y y.ops.length j1y,.I y.term.kind,.I y.term.a,.I y.term.n,.slice B2y y.term.args.length j2y,.I y.term.b0,.slice B3y y.term.args0.length j3y,.I y.term.b1,.slice B4y y.term.args1.length j4y]))]) hR hM hn78 (by kernel_rfl) ?_
     clear hR hM; intro a75 w76 hR hb77 hM hkn78 hln78 hnen78
     replace hB:=hB.tr hb77
     replace hR:SX.RSt 81 [] [(.e 1 (.P n5)),(.e 3 (.I (totW c.blocks))),(.e 7 (.P n78)),(.e 11 (.slice (some ⟨bby,boy,none⟩) c.blocks.length k1)),(.e 12 (.I (c.blocks.length:Int))),(.e 13 (.I (c.blocks.length:Int))),(.e 58 (.slice (some ⟨bby,boy,none⟩) c.blocks.length k1)),(.e 59 (.I (c.blocks.length:Int))),(.e 60 (.I (j:Int))),(.e 63 (.agg #[.I y.params,.slice B1y y.ops.length j1y,.I y.term.kind,.I y.term.a,.I y.term.n,.slice B2y y.term.args.length j2y,.I y.term.b0,.slice B3y y.term.args0.length j3y,.I y.term.b1,.slice B4y y.term.args1.length j4y]))] a75:=hR.keep (ts:=[1,3,7,11,12,13,58,59,60,63]) (by kernel_rfl)
     refine SX.list_store 3 [(0,(.I y.params)),(1,(.slice B1y y.ops.length j1y)),(2,(.I y.term.kind)),(3,(.I y.term.a)),(4,(.I y.term.n)),(5,(.slice B2y y.term.args.length j2y)),(6,(.I y.term.b0)),(7,(.slice B3y y.term.args0.length j3y)),(8,(.I y.term.b1)),(9,(.slice B4y y.term.args1.length j4y))] [(.I y.params),(.slice B1y y.ops.length j1y),(.I y.term.kind),(.I y.term.a),(.I y.term.n),(.slice B2y y.term.args.length j2y),(.I y.term.b0),(.slice B3y y.term.args0.length j3y),(.I y.term.b1),(.slice B4y y.term.args1.length j4y)] [(⟨bby,boy+j*10,none⟩,(.I y.params)),(⟨bby,boy+j*10+1,none⟩,(.slice B1y y.ops.length j1y)),(⟨bby,boy+j*10+2,none⟩,(.I y.term.kind)),(⟨bby,boy+j*10+3,none⟩,(.I y.term.a)),(⟨bby,boy+j*10+4,none⟩,(.I y.term.n)),(⟨bby,boy+j*10+5,none⟩,(.slice B2y y.term.args.length j2y)),(⟨bby,boy+j*10+6,none⟩,(.I y.term.b0)),(⟨bby,boy+j*10+7,none⟩,(.slice B3y y.term.args0.length j3y)),(⟨bby,boy+j*10+8,none⟩,(.I y.term.b1)),(⟨bby,boy+j*10+9,none⟩,(.slice B4y y.term.args1.length j4y)),(⟨n5,0,none⟩,(.I c.params)),(⟨n5,1,none⟩,(.slice (some ⟨bby,boy,none⟩) c.blocks.length k1)),(⟨n5,2,none⟩,(.slice A2 c.contexts.length k2)),(⟨n5,3,none⟩,(.slice A3 c.objects.length k3))] [(⟨n78,0,none⟩,(.I y.params)),(⟨n78,1,none⟩,(.slice B1y y.ops.length j1y)),(⟨n78,2,none⟩,(.I y.term.kind)),(⟨n78,3,none⟩,(.I y.term.a)),(⟨n78,4,none⟩,(.I y.term.n)),(⟨n78,5,none⟩,(.slice B2y y.term.args.length j2y)),(⟨n78,6,none⟩,(.I y.term.b0)),(⟨n78,7,none⟩,(.slice B3y y.term.args0.length j3y)),(⟨n78,8,none⟩,(.I y.term.b1)),(⟨n78,9,none⟩,(.slice B4y y.term.args1.length j4y)),(⟨bby,boy+j*10,none⟩,(.I y.params)),(⟨bby,boy+j*10+1,none⟩,(.slice B1y y.ops.length j1y)),(⟨bby,boy+j*10+2,none⟩,(.I y.term.kind)),(⟨bby,boy+j*10+3,none⟩,(.I y.term.a)),(⟨bby,boy+j*10+4,none⟩,(.I y.term.n)),(⟨bby,boy+j*10+5,none⟩,(.slice B2y y.term.args.length j2y)),(⟨bby,boy+j*10+6,none⟩,(.I y.term.b0)),(⟨bby,boy+j*10+7,none⟩,(.slice B3y y.term.args0.length j3y)),(⟨bby,boy+j*10+8,none⟩,(.I y.term.b1)),(⟨bby,boy+j*10+9,none⟩,(.slice B4y y.term.args1.length j4y)),(⟨n5,0,none⟩,(.I c.params)),(⟨n5,1,none⟩,(.slice (some ⟨bby,boy,none⟩) c.blocks.length k1)),(⟨n5,2,none⟩,(.slice A2 c.contexts.length k2)),(⟨n5,3,none⟩,(.slice A3 c.objects.length k3))] hR (SX.cells_sub hM [0,1,2,3,4,5,6,7,8,9,10,11,12,13] (by kernel_rfl)) hnen78 hkn78 (by kernel_rfl) (by kernel_rfl) (by kernel_rfl) ?_
     clear hR hM hkn78; intro a79 w80 hR hb81 hM hkn78
     replace hB:=hB.trans (hb81.below (by omega))
     refine SX.list_end 4 (by kernel_rfl) ?_
     refine hK71 _ _ ?_
     refine SX.qf [] [.ld [],.ld [0],.cl (.bool (P.within y.params 999)),.ld []] [1,3,11,12,13,58,59,60,67] [(.e 67 (.bool (!(P.within y.params 999))))] [] [] [([],84,#[(.I y.params),(.I 999)],(.bool (P.within y.params 999)))] [] hR hM hB mix trivial trivial (fun w' hb' hM'=>trivial) (fun w' hb' hM'=>⟨fun hg=>SX.pureC (within_any _ _ _),trivial⟩) fun a82 w83 hR hb84 hB hM=>?_
     replace hkn78:=SX.blk_below hkn78 hb84
     refine SX.cond_ (!(P.within y.params 999)) hR (by kernel_rfl) (fun h85=>?_) (fun h85=>?_)
     ·skip
      refine SX.qs [.ld []] [1,2,3,11,12,13,58,59,60] [(.e 2 (.I 4))] hR hM hB mix fun a86 w87 hR hb88 hB hM=>?_
      replace hkn78:=SX.blk_below hkn78 hb88
      refine wp_ret ?_
      try simp only [Exit.then,Exit.inBlock,Nat.reduceEqDiff,↓reduceIte]
      refine SX.ret_ 2 (.I 4) Try.results46 hR (by kernel_rfl) ?_
      clear hR hM mix hK1 hzn5 hb4 hkn5 hln5 hn5 hb8 hb11 hK12 hb15 hm18 hb21 hK22 hK42 hb45 hK50 hb53 hK58 hb61 hm64 hb67 hK68 hK70 hK71 hb74 hzn78 hb77 hkn78 hln78 hn78 hnen78 hb81 hb84 hb88
      refine ⟨ret_int ?_,hB⟩
      unfold P.check
      rw [lim_eq]
      simp only [h46,h54,← all_no hy (p:=fun b=>P.within b.params 999) (by simpa using h85),Bool.not_false,Bool.false_eq_true,↓reduceIte]
     ·skip
      refine wp_skip ?_
      refine hK70 _ _ ?_
      refine SX.qf0 [] [.nm (.I ((j+1:Nat):Int)),.ld []] [1,3,11,12,13,58,59,60] [(.e 60 (.I ((j+1:Nat):Int)))] [] [] [] [([],(.I (IntKind.i64.wrap ((j:Int)+1))),(.I ((j+1:Nat):Int)))] hR hM hB mix trivial ⟨fun hg=>SX.wrap_ok (by omega),trivial⟩ (fun w' hb' hM'=>trivial) (fun w' hb' hM'=>trivial) fun a89 w90 hR hb91 hB hM=>?_
      replace hkn78:=SX.blk_below hkn78 hb91
      exact ⟨c.blocks.length-(j+1),by omega,j+1,rfl,by omega,hR.keep (ts:=[1,3,11,12,13,58,59,60]) (by kernel_rfl),hB,SX.cells_sub hM [20,21,22,23] (by kernel_rfl),hIj.step hy (by simpa using h85)⟩
    ·skip
     refine wp_exit ?_
     refine hK58 _ _ ?_
     refine wp_seq_k fun K92 hK92=>?_
     have hw9:=hIj.all (le_of_dec h69)
     have hall:∀ y∈c.blocks,0≤y.params∧y.params≤999:=fun y hy=>by have:=List.all_eq_true.1 hw9.symm y hy; unfold P.within at this; simpa using this
     have hcp:0≤c.params:=by have:=h54; simp only [Bool.or_eq_false_iff,Bool.not_eq_false'] at this; have:=this.1.1; unfold P.rightHead P.within at this; simp only [Bool.and_eq_true,decide_eq_true_eq] at this; exact this.1.1.1
     refine SX.qs [.ld [],.ld [1],.ld [],.ld []] [1,3,11,12,13,58,59,60,70,71,72] [(.e 70 (.slice A1 c.blocks.length k1)),(.e 71 (.I (c.blocks.length:Int))),(.e 72 (.I 0))] hR hM hB mix fun a93 w94 hR hb95 hB hM=>?_
     refine wp_block ?_
     refine wp_loop_ghost (fun m98 a' w'=>∃ m:Nat,m98=c.blocks.length-m∧m≤c.blocks.length∧SX.RSt 81 [] [(.e 1 (.P n5)),(.e 3 (.I (totW c.blocks))),(.e 11 (.slice A1 c.blocks.length k1)),(.e 12 (.I (c.blocks.length:Int))),(.e 13 (.I (c.blocks.length:Int))),(.e 58 (.slice A1 c.blocks.length k1)),(.e 59 (.I (c.blocks.length:Int))),(.e 60 (.I (j:Int))),(.e 70 (.slice A1 c.blocks.length k1)),(.e 71 (.I (c.blocks.length:Int))),(.e 72 (.I (m:Int)))] a'∧Below w.heap.size w w'∧SX.Cells w' [(⟨n5,0,none⟩,(.I c.params)),(⟨n5,1,none⟩,(.slice A1 c.blocks.length k1)),(⟨n5,2,none⟩,(.slice A2 c.contexts.length k2)),(⟨n5,3,none⟩,(.slice A3 c.objects.length k3))]∧Upto c.blocks (fun _ b=>P.rightBlock c b) (m)) (c.blocks.length-0) ⟨0,rfl,Nat.zero_le _,hR.keep (ts:=[1,3,11,12,13,58,59,60,70,71,72]) (by kernel_rfl),hB,hM,Upto.zero⟩ ?_
     clear hR hM hB
     rintro m98 a96 w97 ⟨m,hm98,hlem,hR,hB,hM,hIm⟩
     refine SX.qs [.ld []] [1,3,11,12,13,58,59,60,70,71,72,73] [(.e 73 (.bool (decide ((m:Int)<(c.blocks.length:Int)))))] hR hM hB mix fun a99 w100 hR hb101 hB hM=>?_
     refine wp_seq_k fun K102 hK102=>?_
     refine SX.cond_ (decide ((m:Int)<(c.blocks.length:Int))) hR (by kernel_rfl) (fun h103=>?_) (fun h103=>?_)
     ·skip
      refine wp_skip ?_
      refine hK102 _ _ ?_
      refine wp_seq_k fun K104 hK104=>?_
      refine wp_block ?_
      refine wp_seq_k fun K105 hK105=>?_
      have hlt:m<c.blocks.length:=lt_of_dec h103
      obtain ⟨y,hy⟩:=get_of_lt hlt
      obtain ⟨bby,boy,hAy,B1y,j1y,B2y,j2y,B3y,j3y,B4y,j4y,hsy,hbly,cb0y,cb1y,cb2y,cb3y,cb4y,cb5y,cb6y,cb7y,cb8y,cb9y⟩:=h0.2.1.elem hy
      subst hAy; unfold Shape at hsy
      have hoy:bby<w.heap.size:=World.block_lt_of_cell? w _ cb0y
      replace hM:=(SX.cells_add (cell_below hB cb0y) (SX.cells_add (cell_below hB cb1y) (SX.cells_add (cell_below hB cb2y) (SX.cells_add (cell_below hB cb3y) (SX.cells_add (cell_below hB cb4y) (SX.cells_add (cell_below hB cb5y) (SX.cells_add (cell_below hB cb6y) (SX.cells_add (cell_below hB cb7y) (SX.cells_add (cell_below hB cb8y) (SX.cells_add (cell_below hB cb9y) hM))))))))))
      refine SX.region_l ?_
      refine SX.list_q (κ:=[]) 0 2 [.ix ⟨bby,boy+m*10,none⟩,.ld [0,1,2,3,4,5,6,7,8,9]] [1,3,11,12,13,58,59,60,70,71,72,75] [(.e 1 (.P n5)),(.e 3 (.I (totW c.blocks))),(.e 11 (.slice (some ⟨bby,boy,none⟩) c.blocks.length k1)),(.e 12 (.I (c.blocks.length:Int))),(.e 13 (.I (c.blocks.length:Int))),(.e 58 (.slice (some ⟨bby,boy,none⟩) c.blocks.length k1)),(.e 59 (.I (c.blocks.length:Int))),(.e 60 (.I (j:Int))),(.e 70 (.slice (some ⟨bby,boy,none⟩) c.blocks.length k1)),(.e 71 (.I (c.blocks.length:Int))),(.e 72 (.I (m:Int))),(.e 75 (.agg #[.I y.params,.slice B1y y.ops.length j1y,.I y.term.kind,.I y.term.a,.I y.term.n,.slice B2y y.term.args.length j2y,.I y.term.b0,.slice B3y y.term.args0.length j3y,.I y.term.b1,.slice B4y y.term.args1.length j4y]))] [([],⟨bby,boy,none⟩,c.blocks.length,(m:Int),10,⟨bby,boy+m*10,none⟩)] [] [] [] hR hM (by kernel_rfl) (by kernel_rfl) ⟨fun hg=>SX.ix_ok (by omega),trivial⟩ trivial (fun w' hb' hM'=>trivial) (fun w' hb' hM'=>trivial) ?_
      clear hR hM; intro a106 w107 hR hb108 hM
      replace hB:=hB.tr hb108
      obtain ⟨n112,hn112⟩:∃ n,w107.heap.size=n:=⟨_,rfl⟩
      have hzn112:w.heap.size≤n112:=by have:=hB.size; omega
      refine SX.list_alloc 2 n112 [(.I 0),(.slice none 0 0),(.I 0),(.I 0),(.I 0),(.slice none 0 0),(.I 0),(.slice none 0 0),(.I 0),(.slice none 0 0)] 62 ((.e 9 (.P n112))::[(.e 1 (.P n5)),(.e 3 (.I (totW c.blocks))),(.e 11 (.slice (some ⟨bby,boy,none⟩) c.blocks.length k1)),(.e 12 (.I (c.blocks.length:Int))),(.e 13 (.I (c.blocks.length:Int))),(.e 58 (.slice (some ⟨bby,boy,none⟩) c.blocks.length k1)),(.e 59 (.I (c.blocks.length:Int))),(.e 60 (.I (j:Int))),(.e 70 (.slice (some ⟨bby,boy,none⟩) c.blocks.length k1)),(.e 71 (.I (c.blocks.length:Int))),(.e 72 (.I (m:Int))),(.e 75 (.agg #[.I y.params,.slice B1y y.ops.length j1y,.I y.term.kind,.I y.term.a,.I y.term.n,.slice B2y y.term.args.length j2y,.I y.term.b0,.slice B3y y.term.args0.length j3y,.I y.term.b1,.slice B4y y.term.args1.length j4y]))]) hR hM hn112 (by kernel_rfl) ?_
      clear hR hM; intro a109 w110 hR hb111 hM hkn112 hln112 hnen112
      replace hB:=hB.tr hb111
      replace hR:SX.RSt 81 [] [(.e 1 (.P n5)),(.e 3 (.I (totW c.blocks))),(.e 9 (.P n112)),(.e 11 (.slice (some ⟨bby,boy,none⟩) c.blocks.length k1)),(.e 12 (.I (c.blocks.length:Int))),(.e 13 (.I (c.blocks.length:Int))),(.e 58 (.slice (some ⟨bby,boy,none⟩) c.blocks.length k1)),(.e 59 (.I (c.blocks.length:Int))),(.e 60 (.I (j:Int))),(.e 70 (.slice (some ⟨bby,boy,none⟩) c.blocks.length k1)),(.e 71 (.I (c.blocks.length:Int))),(.e 72 (.I (m:Int))),(.e 75 (.agg #[.I y.params,.slice B1y y.ops.length j1y,.I y.term.kind,.I y.term.a,.I y.term.n,.slice B2y y.term.args.length j2y,.I y.term.b0,.slice B3y y.term.args0.length j3y,.I y.term.b1,.slice B4y y.term.args1.length j4y]))] a109:=hR.keep (ts:=[1,3,9,11,12,13,58,59,60,70,71,72,75]) (by kernel_rfl)
      refine SX.list_store 3 [(0,(.I y.params)),(1,(.slice B1y y.ops.length j1y)),(2,(.I y.term.kind)),(3,(.I y.term.a)),(4,(.I y.term.n)),(5,(.slice B2y y.term.args.length j2y)),(6,(.I y.term.b0)),(7,(.slice B3y y.term.args0.length j3y)),(8,(.I y.term.b1)),(9,(.slice B4y y.term.args1.length j4y))] [(.I y.params),(.slice B1y y.ops.length j1y),(.I y.term.kind),(.I y.term.a),(.I y.term.n),(.slice B2y y.term.args.length j2y),(.I y.term.b0),(.slice B3y y.term.args0.length j3y),(.I y.term.b1),(.slice B4y y.term.args1.length j4y)] [(⟨bby,boy+m*10,none⟩,(.I y.params)),(⟨bby,boy+m*10+1,none⟩,(.slice B1y y.ops.length j1y)),(⟨bby,boy+m*10+2,none⟩,(.I y.term.kind)),(⟨bby,boy+m*10+3,none⟩,(.I y.term.a)),(⟨bby,boy+m*10+4,none⟩,(.I y.term.n)),(⟨bby,boy+m*10+5,none⟩,(.slice B2y y.term.args.length j2y)),(⟨bby,boy+m*10+6,none⟩,(.I y.term.b0)),(⟨bby,boy+m*10+7,none⟩,(.slice B3y y.term.args0.length j3y)),(⟨bby,boy+m*10+8,none⟩,(.I y.term.b1)),(⟨bby,boy+m*10+9,none⟩,(.slice B4y y.term.args1.length j4y)),(⟨n5,0,none⟩,(.I c.params)),(⟨n5,1,none⟩,(.slice (some ⟨bby,boy,none⟩) c.blocks.length k1)),(⟨n5,2,none⟩,(.slice A2 c.contexts.length k2)),(⟨n5,3,none⟩,(.slice A3 c.objects.length k3))] [(⟨n112,0,none⟩,(.I y.params)),(⟨n112,1,none⟩,(.slice B1y y.ops.length j1y)),(⟨n112,2,none⟩,(.I y.term.kind)),(⟨n112,3,none⟩,(.I y.term.a)),(⟨n112,4,none⟩,(.I y.term.n)),(⟨n112,5,none⟩,(.slice B2y y.term.args.length j2y)),(⟨n112,6,none⟩,(.I y.term.b0)),(⟨n112,7,none⟩,(.slice B3y y.term.args0.length j3y)),(⟨n112,8,none⟩,(.I y.term.b1)),(⟨n112,9,none⟩,(.slice B4y y.term.args1.length j4y)),(⟨bby,boy+m*10,none⟩,(.I y.params)),(⟨bby,boy+m*10+1,none⟩,(.slice B1y y.ops.length j1y)),(⟨bby,boy+m*10+2,none⟩,(.I y.term.kind)),(⟨bby,boy+m*10+3,none⟩,(.I y.term.a)),(⟨bby,boy+m*10+4,none⟩,(.I y.term.n)),(⟨bby,boy+m*10+5,none⟩,(.slice B2y y.term.args.length j2y)),(⟨bby,boy+m*10+6,none⟩,(.I y.term.b0)),(⟨bby,boy+m*10+7,none⟩,(.slice B3y y.term.args0.length j3y)),(⟨bby,boy+m*10+8,none⟩,(.I y.term.b1)),(⟨bby,boy+m*10+9,none⟩,(.slice B4y y.term.args1.length j4y)),(⟨n5,0,none⟩,(.I c.params)),(⟨n5,1,none⟩,(.slice (some ⟨bby,boy,none⟩) c.blocks.length k1)),(⟨n5,2,none⟩,(.slice A2 c.contexts.length k2)),(⟨n5,3,none⟩,(.slice A3 c.objects.length k3))] hR (SX.cells_sub hM [0,1,2,3,4,5,6,7,8,9,10,11,12,13] (by kernel_rfl)) hnen112 hkn112 (by kernel_rfl) (by kernel_rfl) (by kernel_rfl) ?_
      clear hR hM hkn112; intro a113 w114 hR hb115 hM hkn112
      replace hB:=hB.trans (hb115.below (by omega))
      refine SX.list_end 4 (by kernel_rfl) ?_
      refine hK105 _ _ ?_
      refine SX.qf [] [.ld [20,21,22,23],.ld [0,1,2,3,4,5,6,7,8,9],.cl (.bool (P.rightBlock c y)),.ld []] [1,3,11,12,13,58,59,60,70,71,72,79] [(.e 79 (.bool (!(P.rightBlock c y))))] [] [] [([],85,#[(.agg #[.I c.params,.slice (some ⟨bby,boy,none⟩) c.blocks.length k1,.slice A2 c.contexts.length k2,.slice A3 c.objects.length k3]),(.agg #[.I y.params,.slice B1y y.ops.length j1y,.I y.term.kind,.I y.term.a,.I y.term.n,.slice B2y y.term.args.length j2y,.I y.term.b0,.slice B3y y.term.args0.length j3y,.I y.term.b1,.slice B4y y.term.args1.length j4y])],(.bool (P.rightBlock c y)))] [] hR hM hB mix trivial trivial (fun w' hb' hM'=>trivial) (fun w' hb' hM'=>⟨fun hg=>rightBlock_any c _ _ _ _ (h0.below (hB.tr hb')) y _ _ _ _ (hbly.below (hB.tr hb')) hcp (hall y (List.mem_of_getElem? hy)),trivial⟩) fun a116 w117 hR hb118 hB hM=>?_
      replace hkn112:=SX.blk_below hkn112 hb118
      refine SX.cond_ (!(P.rightBlock c y)) hR (by kernel_rfl) (fun h119=>?_) (fun h119=>?_)
      ·skip
       refine SX.qs [.ld []] [1,2,3,11,12,13,58,59,60,70,71,72] [(.e 2 (.I 4))] hR hM hB mix fun a120 w121 hR hb122 hB hM=>?_
       replace hkn112:=SX.blk_below hkn112 hb122
       refine wp_ret ?_
       try simp only [Exit.then,Exit.inBlock,Nat.reduceEqDiff,↓reduceIte]
       refine SX.ret_ 2 (.I 4) Try.results46 hR (by kernel_rfl) ?_
       clear hR hM mix hK1 hzn5 hb4 hkn5 hln5 hn5 hb8 hb11 hK12 hb15 hm18 hb21 hK22 hK42 hb45 hK50 hb53 hK58 hb61 hm64 hb67 hK68 hK92 hb95 hm98 hb101 hK102 hK104 hK105 hb108 hzn112 hb111 hkn112 hln112 hn112 hnen112 hb115 hb118 hb122
       refine ⟨ret_int ?_,hB⟩
       unfold P.check
       rw [lim_eq]
       simp only [h46,h54,← hw9,← all_no hy (by simpa using h119),Bool.not_true,Bool.false_eq_true,↓reduceIte]
      ·skip
       refine wp_skip ?_
       refine hK104 _ _ ?_
       refine SX.qf0 [] [.nm (.I ((m+1:Nat):Int)),.ld []] [1,3,11,12,13,58,59,60,70,71,72] [(.e 72 (.I ((m+1:Nat):Int)))] [] [] [] [([],(.I (IntKind.i64.wrap ((m:Int)+1))),(.I ((m+1:Nat):Int)))] hR hM hB mix trivial ⟨fun hg=>SX.wrap_ok (by omega),trivial⟩ (fun w' hb' hM'=>trivial) (fun w' hb' hM'=>trivial) fun a123 w124 hR hb125 hB hM=>?_
       replace hkn112:=SX.blk_below hkn112 hb125
       exact ⟨c.blocks.length-(m+1),by omega,m+1,rfl,by omega,hR.keep (ts:=[1,3,11,12,13,58,59,60,70,71,72]) (by kernel_rfl),hB,SX.cells_sub hM [20,21,22,23] (by kernel_rfl),hIm.step hy (by simpa using h119)⟩
     ·skip
      refine wp_exit ?_
      refine hK92 _ _ ?_
      refine SX.qs [.ld []] [1,2,3,11,12,13,58,59,60,70,71,72] [(.e 2 (.I 0))] hR hM hB mix fun a126 w127 hR hb128 hB hM=>?_
      refine wp_ret ?_
      try simp only [Exit.then,Exit.inBlock,Nat.reduceEqDiff,↓reduceIte]
      refine SX.ret_ 2 (.I 0) Try.results46 hR (by kernel_rfl) ?_
      clear hR hM mix hK1 hzn5 hb4 hkn5 hln5 hn5 hb8 hb11 hK12 hb15 hm18 hb21 hK22 hK42 hb45 hK50 hb53 hK58 hb61 hm64 hb67 hK68 hK92 hb95 hm98 hb101 hK102 hb128
      refine ⟨ret_int ?_,hB⟩
      unfold P.check
      rw [lim_eq]
      simp only [h46,h54,← hw9,← hIm.all (le_of_dec h103),Bool.not_true,Bool.false_eq_true,↓reduceIte]
end Go.Proofs.Ytlkcidmmpeebeaa
