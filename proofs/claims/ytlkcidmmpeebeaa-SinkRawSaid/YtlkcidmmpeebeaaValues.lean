/- Proved: ref06.Values -/
import Derived.Test.YtlkcidmmpeebeaaOwn
import Derived.Test.YtlkcidmmpeebeaaIrCheck
set_option linter.unusedVariables false
set_option linter.unusedSimpArgs false
namespace Go.Proofs.Ytlkcidmmpeebeaa
open Go.RowKit
set_option maxRecDepth 100000
theorem dsts_yes {ops:List OpD} {k:Nat} {o:OpD} (hx:ops[k]?=some o) (hd:R.defines o.kind=true):dsts (ops.take (k+1))=dsts (ops.take k)++[o.dst]:=by
 obtain ⟨hk,rfl⟩:=List.getElem?_eq_some_iff.1 hx
 rw [List.take_succ_eq_append_getElem hk,dsts_snoc,hd]; rfl
theorem dsts_no {ops:List OpD} {k:Nat} {o:OpD} (hx:ops[k]?=some o) (hd:R.defines o.kind=false):dsts (ops.take (k+1))=dsts (ops.take k):=by
 obtain ⟨hk,rfl⟩:=List.getElem?_eq_some_iff.1 hx
 rw [List.take_succ_eq_append_getElem hk,dsts_snoc,hd]; rfl
theorem dsts_le (ops:List OpD) (k:Nat):(dsts (ops.take k)).length≤ops.length:=by
 unfold dsts
 rw [List.length_map]
 exact Nat.le_trans (List.length_filter_le _ _) (by rw [List.length_take]; omega)
theorem values_take {b:BlockD} {k:Nat} (h:b.ops.length≤k):R.upto b.params++dsts (b.ops.take k)=R.values b:=by rw [List.take_of_length_le h]; rfl
theorem upto_len (n:Int):(R.upto n).length=n.toNat:=by simp [R.upto]

set_option maxHeartbeats 400000 in
theorem values_any (w:World) (b:BlockD) (u1 u2 u3 u4:Value) (hb:BlkAt w u1 u2 u3 u4 b) (hbp:0≤b.params∧b.params≤999) (hol:b.ops.length≤6000):Calls Try.prog 86 #[(.agg #[.I b.params,u1,.I b.term.kind,.I b.term.a,.I b.term.n,u2,.I b.term.b0,u3,.I b.term.b1,u4])] w (SX.Ret (fun v w'=>IntsAt w' v (R.values b)∧Fresh w.heap.size v) w):=by
 have hb0:=hb
 obtain ⟨B1,j1,rfl,t1⟩:=hb.2.1.shape
 obtain ⟨B2,j2,rfl,t2⟩:=hb.2.2.1.shape
 obtain ⟨B3,j3,rfl,t3⟩:=hb.2.2.2.1.shape
 obtain ⟨B4,j4,rfl,t4⟩:=hb.2.2.2.2.shape
 unfold Shape at t1 t2 t3 t4
 have mix:=mixed
 have hB:Below w.heap.size w w:=Below.refl _ _
 have hM:SX.Cells w []:=SX.cells_nil
 refine SX.enter [(.agg #[.I b.params,.slice B1 b.ops.length j1,.I b.term.kind,.I b.term.a,.I b.term.n,.slice B2 b.term.args.length j2,.I b.term.b0,.slice B3 b.term.args0.length j3,.I b.term.b1,.slice B4 b.term.args1.length j4])] 34 Try.func86 rfl rfl (by kernel_rfl) ?_
 intro a hR
 refine wp_seq_k fun K1 hK1=>?_
 refine SX.region_l ?_
 obtain ⟨n5,hn5⟩:∃ n,w.heap.size=n:=⟨_,rfl⟩
 have hzn5:w.heap.size≤n5:=by have:=hB.size; omega
 refine SX.list_box 0 n5 [(.I b.params),(.slice B1 b.ops.length j1),(.I b.term.kind),(.I b.term.a),(.I b.term.n),(.slice B2 b.term.args.length j2),(.I b.term.b0),(.slice B3 b.term.args0.length j3),(.I b.term.b1),(.slice B4 b.term.args1.length j4)] 62 ((.e 1 (.P n5))::[(.e 0 (.agg #[.I b.params,.slice B1 b.ops.length j1,.I b.term.kind,.I b.term.a,.I b.term.n,.slice B2 b.term.args.length j2,.I b.term.b0,.slice B3 b.term.args0.length j3,.I b.term.b1,.slice B4 b.term.args1.length j4]))]) [(⟨n5,0,none⟩,(.I b.params)),(⟨n5,1,none⟩,(.slice B1 b.ops.length j1)),(⟨n5,2,none⟩,(.I b.term.kind)),(⟨n5,3,none⟩,(.I b.term.a)),(⟨n5,4,none⟩,(.I b.term.n)),(⟨n5,5,none⟩,(.slice B2 b.term.args.length j2)),(⟨n5,6,none⟩,(.I b.term.b0)),(⟨n5,7,none⟩,(.slice B3 b.term.args0.length j3)),(⟨n5,8,none⟩,(.I b.term.b1)),(⟨n5,9,none⟩,(.slice B4 b.term.args1.length j4))] hR hM hn5 (by kernel_rfl) (by kernel_rfl) ?_
 clear hR hM; intro a2 w3 hR hb4 hM hkn5 hln5
 replace hB:=hB.tr hb4
 replace hR:SX.RSt 34 [] [(.e 1 (.P n5))] a2:=hR.keep (ts:=[1]) (by kernel_rfl)
 refine SX.list_q0 (κ:=[]) 1 1 [.ld []] [1] [(.e 1 (.P n5))] hR hM (by kernel_rfl) (by kernel_rfl) ?_
 clear hR hM; intro a6 w7 hR hb8 hM
 replace hB:=hB.tr hb8
 replace hkn5:=SX.blk_below hkn5 hb8
 refine SX.list_end 2 (by kernel_rfl) ?_
 refine hK1 _ _ ?_
 refine wp_seq_k fun K9 hK9=>?_
 refine SX.region_q0 [.ld []] [1,3] [(.e 1 (.P n5)),(.e 3 (.slice none 0 0))] hR hM mix (by kernel_rfl) (by kernel_rfl) (by kernel_rfl) (by kernel_rfl) ?_
 clear hR hM; intro a10 w11 hR hb12 hM
 replace hB:=hB.tr hb12
 replace hkn5:=SX.blk_below hkn5 hb12
 obtain ⟨Bs,hBs⟩:∃ n,w11.heap.size=n:=⟨_,rfl⟩
 have hzBs:w.heap.size≤Bs:=by have:=hB.size; omega
 have qn5Bs:n5<Bs:=by have:=(Array.getElem?_eq_some_iff.1 hkn5).1; omega
 have hown:IntsOwn w11 Bs (.slice none 0 0) []:=IntsOwn.nil (by omega)
 clear hBs
 refine hK9 _ _ ?_
 refine wp_seq_k fun K13 hK13=>?_
 refine wp_seq_k fun K14 hK14=>?_
 refine SX.region_q0 [.ld []] [1,3,4] [(.e 1 (.P n5)),(.e 3 (.slice none 0 0)),(.e 4 (.I 0))] hR hM mix (by kernel_rfl) (by kernel_rfl) (by kernel_rfl) (by kernel_rfl) ?_
 clear hR hM; intro a15 w16 hR hb17 hM
 replace hB:=hB.tr hb17
 replace hown:=hown.below hb17
 replace hkn5:=SX.blk_below hkn5 hb17
 refine hK14 _ _ ?_
 refine wp_block ?_
 refine wp_loop_ghost (fun m20 a' w'=>∃ k:Nat,∃ v:Value,m20=b.params.toNat-k∧k≤b.params.toNat∧SX.RSt 34 [] [(.e 1 (.P n5)),(.e 3 v),(.e 4 (.I ((k:Nat):Int)))] a'∧Below w.heap.size w w'∧SX.Cells w' [(⟨n5,0,none⟩,(.I b.params)),(⟨n5,1,none⟩,(.slice B1 b.ops.length j1)),(⟨n5,2,none⟩,(.I b.term.kind)),(⟨n5,3,none⟩,(.I b.term.a)),(⟨n5,4,none⟩,(.I b.term.n)),(⟨n5,5,none⟩,(.slice B2 b.term.args.length j2)),(⟨n5,6,none⟩,(.I b.term.b0)),(⟨n5,7,none⟩,(.slice B3 b.term.args0.length j3)),(⟨n5,8,none⟩,(.I b.term.b1)),(⟨n5,9,none⟩,(.slice B4 b.term.args1.length j4))]∧IntsOwn w' Bs v (uptoN (k))) (b.params.toNat-0) ⟨0,(.slice none 0 0),rfl,Nat.zero_le _,hR.keep (ts:=[1,3,4]) (by kernel_rfl),hB,hM,hown⟩ ?_
 clear hR hM hB
 rintro m20 a18 w19 ⟨k,v,hm20,hlek,hR,hB,hM,hIk⟩
 have hown:=hIk
 refine wp_seq_k fun K21 hK21=>?_
 refine wp_seq_k fun K22 hK22=>?_
 refine SX.region_q0 [.ld [],.ld [],.ld [0],.ld []] [1,3,4,10] [(.e 1 (.P n5)),(.e 3 v),(.e 4 (.I ((k:Nat):Int))),(.e 10 (.bool (decide (((k:Nat):Int)<b.params))))] hR hM mix (by kernel_rfl) (by kernel_rfl) (by kernel_rfl) (by kernel_rfl) ?_
 clear hR hM; intro a23 w24 hR hb25 hM
 replace hB:=hB.tr hb25
 replace hown:=hown.below hb25
 refine hK22 _ _ ?_
 refine SX.cond_ (decide (((k:Nat):Int)<b.params)) hR (by kernel_rfl) (fun h26=>?_) (fun h26=>?_)
 ·skip
  refine wp_skip ?_
  refine hK21 _ _ ?_
  refine wp_seq_k fun K27 hK27=>?_
  refine wp_block ?_
  have hlt:k<b.params.toNat:=by have:=of_decide_eq_true h26; omega
  refine SX.region_l ?_
  refine SX.list_q0 (κ:=[]) 0 2 [.ld [],.ld []] [1,3,4,13,14] [(.e 1 (.P n5)),(.e 3 v),(.e 4 (.I ((k:Nat):Int))),(.e 13 v),(.e 14 (.I ((k:Nat):Int)))] hR hM (by kernel_rfl) (by kernel_rfl) ?_
  clear hR hM; intro a28 w29 hR hb30 hM
  replace hB:=hB.tr hb30
  replace hown:=hown.below hb30
  obtain ⟨n34,hn34⟩:∃ n,w29.heap.size=n:=⟨_,rfl⟩
  have hzn34:w.heap.size≤n34:=by have:=hB.size; omega
  have hgn34hown:=hown.lt hn34
  refine SX.list_box 2 n34 [(.I ((k:Nat):Int))] 3 ((.e 15 (.slice (some ⟨n34,0,none⟩) 1 1))::[(.e 1 (.P n5)),(.e 3 v),(.e 4 (.I ((k:Nat):Int))),(.e 13 v),(.e 14 (.I ((k:Nat):Int)))]) [(⟨n34,0,none⟩,(.I ((k:Nat):Int))),(⟨n5,0,none⟩,(.I b.params)),(⟨n5,1,none⟩,(.slice B1 b.ops.length j1)),(⟨n5,2,none⟩,(.I b.term.kind)),(⟨n5,3,none⟩,(.I b.term.a)),(⟨n5,4,none⟩,(.I b.term.n)),(⟨n5,5,none⟩,(.slice B2 b.term.args.length j2)),(⟨n5,6,none⟩,(.I b.term.b0)),(⟨n5,7,none⟩,(.slice B3 b.term.args0.length j3)),(⟨n5,8,none⟩,(.I b.term.b1)),(⟨n5,9,none⟩,(.slice B4 b.term.args1.length j4))] hR hM hn34 (by kernel_rfl) (by kernel_rfl) ?_
  clear hR hM; intro a31 w32 hR hb33 hM hkn34 hln34
  replace hB:=hB.tr hb33
  replace hown:=hown.below hb33
  replace hR:SX.RSt 34 [] [(.e 1 (.P n5)),(.e 3 v),(.e 4 (.I ((k:Nat):Int))),(.e 13 v),(.e 15 (.slice (some ⟨n34,0,none⟩) 1 1))] a31:=hR.keep (ts:=[1,3,4,13,15]) (by kernel_rfl)
  obtain ⟨v35,w36,hrun,hown2,hgr38⟩:=appI_run hown n34 ((k:Nat):Int) (hM (⟨n34,0,none⟩,(.I ((k:Nat):Int))) (SX.mget_mem (i:=0) (by kernel_rfl))) (by unfold I64; omega) (by rw [uptoN_len]; omega)
  refine SX.list_run 3 (some 16) (appS 35 35 v (.slice (some ⟨n34,0,none⟩) 1 1)) v35 hR (by kernel_rfl) (by kernel_rfl) hrun ?_
  clear hR hrun; intro a37 hR
  have hgee39:=hown.ge
  have hqn34e39:∀ g,v.ownBlock=some g→n34≠g:=fun g hg=>by have h1:=hgee39 g hg; have h2:=hgn34hown g hg; omega
  have hqn5e39:∀ g,v.ownBlock=some g→n5≠g:=fun g hg=>by have h1:=hgee39 g hg; omega
  replace hB:=hB.grown hgr38 hB.size (fun g hg=>by have h1:=hgee39 g hg; omega)
  replace hM:=cells_grown hM hgr38 (gne_cons hqn34e39 (gne_cons hqn5e39 (gne_cons hqn5e39 (gne_cons hqn5e39 (gne_cons hqn5e39 (gne_cons hqn5e39 (gne_cons hqn5e39 (gne_cons hqn5e39 (gne_cons hqn5e39 (gne_cons hqn5e39 (gne_cons hqn5e39 gne_nil)))))))))))
  replace hkn34:=(hgr38.block _ (Array.getElem?_eq_some_iff.1 hkn34).1 (fun e=>(show ∀ g,v.ownBlock=some g→n34≠g from fun g hg=>by have h1:=hgee39 g hg; have h2:=hgn34hown g hg; omega) _ e.symm rfl)).trans hkn34
  clear hown; have hown:=hown2; clear hown2
  replace hR:SX.RSt 34 [] [(.e 1 (.P n5)),(.e 3 v),(.e 4 (.I ((k:Nat):Int))),(.e 16 v35)] a37:=hR.keep (ts:=[1,3,4,16]) (by kernel_rfl)
  refine SX.list_q0 (κ:=[]) 4 1 [.ld []] [1,3,4] [(.e 1 (.P n5)),(.e 3 v35),(.e 4 (.I ((k:Nat):Int)))] hR hM (by kernel_rfl) (by kernel_rfl) ?_
  clear hR hM; intro a40 w41 hR hb42 hM
  replace hB:=hB.tr hb42
  replace hown:=hown.below hb42
  replace hkn34:=SX.blk_below hkn34 hb42
  refine SX.list_end 5 (by kernel_rfl) ?_
  refine hK27 _ _ ?_
  refine SX.region_q [] [.ld [],.nm (.I ((k+1:Nat):Int)),.ld []] [1,3,4] [(.e 1 (.P n5)),(.e 3 v35),(.e 4 (.I ((k+1:Nat):Int)))] [] [] [] [([],(.I (IntKind.i64.wrap (((k:Nat):Int)+1))),(.I ((k+1:Nat):Int)))] hR hM mix (by kernel_rfl) (by kernel_rfl) (by kernel_rfl) (by kernel_rfl) trivial ⟨fun hg=>SX.wrap_ok (by omega),trivial⟩ (fun w' hb' hM'=>trivial) (fun w' hb' hM'=>trivial) ?_
  clear hR hM; intro a43 w44 hR hb45 hM
  replace hB:=hB.tr hb45
  replace hown:=hown.below hb45
  replace hkn34:=SX.blk_below hkn34 hb45
  exact ⟨b.params.toNat-(k+1),by omega,k+1,v35,rfl,by omega,hR.keep (ts:=[1,3,4]) (by kernel_rfl),hB,SX.cells_sub hM [1,2,3,4,5,6,7,8,9,10] (by kernel_rfl),by rw [uptoN_succ]; exact hown⟩
 ·skip
  refine wp_exit ?_
  refine hK13 _ _ ?_
  refine wp_seq_k fun K46 hK46=>?_
  refine wp_seq_k fun K47 hK47=>?_
  obtain rfl:k=b.params.toNat:=by have:=of_decide_eq_false h26; omega
  rw [← upto_eq] at hown
  refine SX.region_q0 [.ld [],.ld [1],.ld [],.ld []] [1,3,4,18,19,20] [(.e 1 (.P n5)),(.e 3 v),(.e 4 (.I ((b.params.toNat:Nat):Int))),(.e 18 (.slice B1 b.ops.length j1)),(.e 19 (.I ((b.ops.length:Nat):Int))),(.e 20 (.I 0))] hR hM mix (by kernel_rfl) (by kernel_rfl) (by kernel_rfl) (by kernel_rfl) ?_
  clear hR hM; intro a48 w49 hR hb50 hM
  replace hB:=hB.tr hb50
  replace hown:=hown.below hb50
  refine hK47 _ _ ?_
  refine wp_block ?_
  refine wp_loop_ghost (fun m53 a' w'=>∃ j:Nat,∃ v:Value,m53=b.ops.length-j∧j≤b.ops.length∧SX.RSt 34 [] [(.e 1 (.P n5)),(.e 3 v),(.e 4 (.I ((b.params.toNat:Nat):Int))),(.e 18 (.slice B1 b.ops.length j1)),(.e 19 (.I ((b.ops.length:Nat):Int))),(.e 20 (.I ((j:Nat):Int)))] a'∧Below w.heap.size w w'∧SX.Cells w' [(⟨n5,0,none⟩,(.I b.params)),(⟨n5,1,none⟩,(.slice B1 b.ops.length j1)),(⟨n5,2,none⟩,(.I b.term.kind)),(⟨n5,3,none⟩,(.I b.term.a)),(⟨n5,4,none⟩,(.I b.term.n)),(⟨n5,5,none⟩,(.slice B2 b.term.args.length j2)),(⟨n5,6,none⟩,(.I b.term.b0)),(⟨n5,7,none⟩,(.slice B3 b.term.args0.length j3)),(⟨n5,8,none⟩,(.I b.term.b1)),(⟨n5,9,none⟩,(.slice B4 b.term.args1.length j4))]∧IntsOwn w' Bs v (R.upto b.params++dsts (b.ops.take (j)))) (b.ops.length-0) ⟨0,v,rfl,Nat.zero_le _,hR.keep (ts:=[1,3,4,18,19,20]) (by kernel_rfl),hB,hM,by rw [List.take_zero]; simpa [dsts] using hown⟩ ?_
  clear hR hM hB
  rintro m53 a51 w52 ⟨j,v,hm53,hlej,hR,hB,hM,hIj⟩
  have hown:=hIj
  refine wp_seq_k fun K54 hK54=>?_
  refine SX.region_q0 [.ld []] [1,3,4,18,19,20,21] [(.e 1 (.P n5)),(.e 3 v),(.e 4 (.I ((b.params.toNat:Nat):Int))),(.e 18 (.slice B1 b.ops.length j1)),(.e 19 (.I ((b.ops.length:Nat):Int))),(.e 20 (.I ((j:Nat):Int))),(.e 21 (.bool (decide (((j:Nat):Int)<((b.ops.length:Nat):Int)))))] hR hM mix (by kernel_rfl) (by kernel_rfl) (by kernel_rfl) (by kernel_rfl) ?_
  clear hR hM; intro a55 w56 hR hb57 hM
  replace hB:=hB.tr hb57
  replace hown:=hown.below hb57
  refine hK54 _ _ ?_
  refine wp_seq_k fun K58 hK58=>?_
  refine SX.cond_ (decide (((j:Nat):Int)<((b.ops.length:Nat):Int))) hR (by kernel_rfl) (fun h59=>?_) (fun h59=>?_)
  ·skip
   refine wp_skip ?_
   refine hK58 _ _ ?_
   refine wp_seq_k fun K60 hK60=>?_
   refine wp_block ?_
   refine wp_seq_k fun K61 hK61=>?_
   have hlt:j<b.ops.length:=lt_of_dec h59
   obtain ⟨y,hy⟩:=get_of_lt hlt
   obtain ⟨oby,ooy,hAy,hiy,co0y,co1y,co2y,co3y,co4y,co5y,co6y,co7y,co8y,co9y,co10y⟩:=hb0.2.1.elem hy
   subst hAy
   have hoy:oby<w.heap.size:=World.block_lt_of_cell? w _ co0y
   replace hM:=(SX.cells_add (cell_below hB co0y) (SX.cells_add (cell_below hB co1y) (SX.cells_add (cell_below hB co2y) (SX.cells_add (cell_below hB co3y) (SX.cells_add (cell_below hB co4y) (SX.cells_add (cell_below hB co5y) (SX.cells_add (cell_below hB co6y) (SX.cells_add (cell_below hB co7y) (SX.cells_add (cell_below hB co8y) (SX.cells_add (cell_below hB co9y) (SX.cells_add (cell_below hB co10y) hM)))))))))))
   refine SX.region_l ?_
   refine SX.list_q (κ:=[]) 0 2 [.ix ⟨oby,ooy+j*11,none⟩,.ld [0,1,2,3,4,5,6,7,8,9,10]] [1,3,4,18,19,20,23] [(.e 1 (.P n5)),(.e 3 v),(.e 4 (.I ((b.params.toNat:Nat):Int))),(.e 18 (.slice (some ⟨oby,ooy,none⟩) b.ops.length j1)),(.e 19 (.I ((b.ops.length:Nat):Int))),(.e 20 (.I ((j:Nat):Int))),(.e 23 (.agg #[.I y.kind,.I y.dst,.I y.a,.I y.b,.I y.n,.I y.ctx,.I y.var,.I y.piece,.I y.sk,.I y.sv,.I y.sa]))] [([],⟨oby,ooy,none⟩,b.ops.length,((j:Nat):Int),11,⟨oby,ooy+j*11,none⟩)] [] [] [] hR hM (by kernel_rfl) (by kernel_rfl) ⟨fun hg=>SX.ix_ok (by omega),trivial⟩ trivial (fun w' hb' hM'=>trivial) (fun w' hb' hM'=>trivial) ?_
   clear hR hM; intro a62 w63 hR hb64 hM
   replace hB:=hB.tr hb64
   replace hown:=hown.below hb64
   obtain ⟨n68,hn68⟩:∃ n,w63.heap.size=n:=⟨_,rfl⟩
   have hzn68:w.heap.size≤n68:=by have:=hB.size; omega
   have hgn68hown:=hown.lt hn68
   refine SX.list_alloc 2 n68 [(.I 0),(.I 0),(.I 0),(.I 0),(.I 0),(.I 0),(.I 0),(.I 0),(.I 0),(.I 0),(.I 0)] 74 ((.e 6 (.P n68))::[(.e 1 (.P n5)),(.e 3 v),(.e 4 (.I ((b.params.toNat:Nat):Int))),(.e 18 (.slice (some ⟨oby,ooy,none⟩) b.ops.length j1)),(.e 19 (.I ((b.ops.length:Nat):Int))),(.e 20 (.I ((j:Nat):Int))),(.e 23 (.agg #[.I y.kind,.I y.dst,.I y.a,.I y.b,.I y.n,.I y.ctx,.I y.var,.I y.piece,.I y.sk,.I y.sv,.I y.sa]))]) hR hM hn68 (by kernel_rfl) ?_
   clear hR hM; intro a65 w66 hR hb67 hM hkn68 hln68 hnen68
   replace hB:=hB.tr hb67
   replace hown:=hown.below hb67
   replace hR:SX.RSt 34 [] [(.e 1 (.P n5)),(.e 3 v),(.e 4 (.I ((b.params.toNat:Nat):Int))),(.e 6 (.P n68)),(.e 18 (.slice (some ⟨oby,ooy,none⟩) b.ops.length j1)),(.e 19 (.I ((b.ops.length:Nat):Int))),(.e 20 (.I ((j:Nat):Int))),(.e 23 (.agg #[.I y.kind,.I y.dst,.I y.a,.I y.b,.I y.n,.I y.ctx,.I y.var,.I y.piece,.I y.sk,.I y.sv,.I y.sa]))] a65:=hR.keep (ts:=[1,3,4,6,18,19,20,23]) (by kernel_rfl)
   refine SX.list_store 3 [(0,(.I y.kind)),(1,(.I y.dst)),(2,(.I y.a)),(3,(.I y.b)),(4,(.I y.n)),(5,(.I y.ctx)),(6,(.I y.var)),(7,(.I y.piece)),(8,(.I y.sk)),(9,(.I y.sv)),(10,(.I y.sa))] [(.I y.kind),(.I y.dst),(.I y.a),(.I y.b),(.I y.n),(.I y.ctx),(.I y.var),(.I y.piece),(.I y.sk),(.I y.sv),(.I y.sa)] [(⟨oby,ooy+j*11,none⟩,(.I y.kind)),(⟨oby,ooy+j*11+1,none⟩,(.I y.dst)),(⟨oby,ooy+j*11+2,none⟩,(.I y.a)),(⟨oby,ooy+j*11+3,none⟩,(.I y.b)),(⟨oby,ooy+j*11+4,none⟩,(.I y.n)),(⟨oby,ooy+j*11+5,none⟩,(.I y.ctx)),(⟨oby,ooy+j*11+6,none⟩,(.I y.var)),(⟨oby,ooy+j*11+7,none⟩,(.I y.piece)),(⟨oby,ooy+j*11+8,none⟩,(.I y.sk)),(⟨oby,ooy+j*11+9,none⟩,(.I y.sv)),(⟨oby,ooy+j*11+10,none⟩,(.I y.sa)),(⟨n5,0,none⟩,(.I b.params)),(⟨n5,1,none⟩,(.slice (some ⟨oby,ooy,none⟩) b.ops.length j1)),(⟨n5,2,none⟩,(.I b.term.kind)),(⟨n5,3,none⟩,(.I b.term.a)),(⟨n5,4,none⟩,(.I b.term.n)),(⟨n5,5,none⟩,(.slice B2 b.term.args.length j2)),(⟨n5,6,none⟩,(.I b.term.b0)),(⟨n5,7,none⟩,(.slice B3 b.term.args0.length j3)),(⟨n5,8,none⟩,(.I b.term.b1)),(⟨n5,9,none⟩,(.slice B4 b.term.args1.length j4))] [(⟨n68,0,none⟩,(.I y.kind)),(⟨n68,1,none⟩,(.I y.dst)),(⟨n68,2,none⟩,(.I y.a)),(⟨n68,3,none⟩,(.I y.b)),(⟨n68,4,none⟩,(.I y.n)),(⟨n68,5,none⟩,(.I y.ctx)),(⟨n68,6,none⟩,(.I y.var)),(⟨n68,7,none⟩,(.I y.piece)),(⟨n68,8,none⟩,(.I y.sk)),(⟨n68,9,none⟩,(.I y.sv)),(⟨n68,10,none⟩,(.I y.sa)),(⟨oby,ooy+j*11,none⟩,(.I y.kind)),(⟨oby,ooy+j*11+1,none⟩,(.I y.dst)),(⟨oby,ooy+j*11+2,none⟩,(.I y.a)),(⟨oby,ooy+j*11+3,none⟩,(.I y.b)),(⟨oby,ooy+j*11+4,none⟩,(.I y.n)),(⟨oby,ooy+j*11+5,none⟩,(.I y.ctx)),(⟨oby,ooy+j*11+6,none⟩,(.I y.var)),(⟨oby,ooy+j*11+7,none⟩,(.I y.piece)),(⟨oby,ooy+j*11+8,none⟩,(.I y.sk)),(⟨oby,ooy+j*11+9,none⟩,(.I y.sv)),(⟨oby,ooy+j*11+10,none⟩,(.I y.sa)),(⟨n5,0,none⟩,(.I b.params)),(⟨n5,1,none⟩,(.slice (some ⟨oby,ooy,none⟩) b.ops.length j1)),(⟨n5,2,none⟩,(.I b.term.kind)),(⟨n5,3,none⟩,(.I b.term.a)),(⟨n5,4,none⟩,(.I b.term.n)),(⟨n5,5,none⟩,(.slice B2 b.term.args.length j2)),(⟨n5,6,none⟩,(.I b.term.b0)),(⟨n5,7,none⟩,(.slice B3 b.term.args0.length j3)),(⟨n5,8,none⟩,(.I b.term.b1)),(⟨n5,9,none⟩,(.slice B4 b.term.args1.length j4))] hR (SX.cells_sub hM [0,1,2,3,4,5,6,7,8,9,10,11,12,13,14,15,16,17,18,19,20] (by kernel_rfl)) hnen68 hkn68 (by kernel_rfl) (by kernel_rfl) (by kernel_rfl) ?_
   clear hR hM hkn68; intro a69 w70 hR hb71 hM hkn68
   replace hB:=hB.trans (hb71.below (by omega))
   replace hown:=hown.but hb71 (fun g hg=>Nat.ne_of_lt (hgn68hown g hg))
   refine SX.list_end 4 (by kernel_rfl) ?_
   refine hK61 _ _ ?_
   refine wp_seq_k fun K72 hK72=>?_
   refine SX.region_q [] [.ld [],.ld [0],.cl (.bool (R.defines y.kind))] [1,3,4,6,18,19,20,26] [(.e 1 (.P n5)),(.e 3 v),(.e 4 (.I ((b.params.toNat:Nat):Int))),(.e 6 (.P n68)),(.e 18 (.slice (some ⟨oby,ooy,none⟩) b.ops.length j1)),(.e 19 (.I ((b.ops.length:Nat):Int))),(.e 20 (.I ((j:Nat):Int))),(.e 26 (.bool (R.defines y.kind)))] [] [] [([],90,#[(.I y.kind)],(.bool (R.defines y.kind)))] [] hR hM mix (by kernel_rfl) (by kernel_rfl) (by kernel_rfl) (by kernel_rfl) trivial trivial (fun w' hb' hM'=>trivial) (fun w' hb' hM'=>⟨fun hg=>SX.pureC (defines_any _ _),trivial⟩) ?_
   clear hR hM; intro a73 w74 hR hb75 hM
   replace hB:=hB.tr hb75
   replace hown:=hown.below hb75
   replace hkn68:=SX.blk_below hkn68 hb75
   refine hK72 _ _ ?_
   refine SX.cond_ (R.defines y.kind) hR (by kernel_rfl) (fun h76=>?_) (fun h76=>?_)
   ·skip
    refine SX.region_l ?_
    refine SX.list_q0 (κ:=[]) 0 3 [.ld [],.ld [],.ld [1]] [1,3,4,18,19,20,27,29] [(.e 1 (.P n5)),(.e 3 v),(.e 4 (.I ((b.params.toNat:Nat):Int))),(.e 18 (.slice (some ⟨oby,ooy,none⟩) b.ops.length j1)),(.e 19 (.I ((b.ops.length:Nat):Int))),(.e 20 (.I ((j:Nat):Int))),(.e 27 v),(.e 29 (.I y.dst))] hR hM (by kernel_rfl) (by kernel_rfl) ?_
    clear hR hM; intro a77 w78 hR hb79 hM
    replace hB:=hB.tr hb79
    replace hown:=hown.below hb79
    replace hkn68:=SX.blk_below hkn68 hb79
    obtain ⟨n83,hn83⟩:∃ n,w78.heap.size=n:=⟨_,rfl⟩
    have hzn83:w.heap.size≤n83:=by have:=hB.size; omega
    have hgn83hown:=hown.lt hn83
    have qn68n83:n68<n83:=by have:=(Array.getElem?_eq_some_iff.1 hkn68).1; omega
    refine SX.list_box 3 n83 [(.I y.dst)] 3 ((.e 30 (.slice (some ⟨n83,0,none⟩) 1 1))::[(.e 1 (.P n5)),(.e 3 v),(.e 4 (.I ((b.params.toNat:Nat):Int))),(.e 18 (.slice (some ⟨oby,ooy,none⟩) b.ops.length j1)),(.e 19 (.I ((b.ops.length:Nat):Int))),(.e 20 (.I ((j:Nat):Int))),(.e 27 v),(.e 29 (.I y.dst))]) [(⟨n83,0,none⟩,(.I y.dst)),(⟨n68,0,none⟩,(.I y.kind)),(⟨n68,1,none⟩,(.I y.dst)),(⟨n68,2,none⟩,(.I y.a)),(⟨n68,3,none⟩,(.I y.b)),(⟨n68,4,none⟩,(.I y.n)),(⟨n68,5,none⟩,(.I y.ctx)),(⟨n68,6,none⟩,(.I y.var)),(⟨n68,7,none⟩,(.I y.piece)),(⟨n68,8,none⟩,(.I y.sk)),(⟨n68,9,none⟩,(.I y.sv)),(⟨n68,10,none⟩,(.I y.sa)),(⟨oby,ooy+j*11,none⟩,(.I y.kind)),(⟨oby,ooy+j*11+1,none⟩,(.I y.dst)),(⟨oby,ooy+j*11+2,none⟩,(.I y.a)),(⟨oby,ooy+j*11+3,none⟩,(.I y.b)),(⟨oby,ooy+j*11+4,none⟩,(.I y.n)),(⟨oby,ooy+j*11+5,none⟩,(.I y.ctx)),(⟨oby,ooy+j*11+6,none⟩,(.I y.var)),(⟨oby,ooy+j*11+7,none⟩,(.I y.piece)),(⟨oby,ooy+j*11+8,none⟩,(.I y.sk)),(⟨oby,ooy+j*11+9,none⟩,(.I y.sv)),(⟨oby,ooy+j*11+10,none⟩,(.I y.sa)),(⟨n5,0,none⟩,(.I b.params)),(⟨n5,1,none⟩,(.slice (some ⟨oby,ooy,none⟩) b.ops.length j1)),(⟨n5,2,none⟩,(.I b.term.kind)),(⟨n5,3,none⟩,(.I b.term.a)),(⟨n5,4,none⟩,(.I b.term.n)),(⟨n5,5,none⟩,(.slice B2 b.term.args.length j2)),(⟨n5,6,none⟩,(.I b.term.b0)),(⟨n5,7,none⟩,(.slice B3 b.term.args0.length j3)),(⟨n5,8,none⟩,(.I b.term.b1)),(⟨n5,9,none⟩,(.slice B4 b.term.args1.length j4))] hR hM hn83 (by kernel_rfl) (by kernel_rfl) ?_
    clear hR hM; intro a80 w81 hR hb82 hM hkn83 hln83
    replace hB:=hB.tr hb82
    replace hown:=hown.below hb82
    replace hkn68:=SX.blk_below hkn68 hb82
    replace hR:SX.RSt 34 [] [(.e 1 (.P n5)),(.e 3 v),(.e 4 (.I ((b.params.toNat:Nat):Int))),(.e 18 (.slice (some ⟨oby,ooy,none⟩) b.ops.length j1)),(.e 19 (.I ((b.ops.length:Nat):Int))),(.e 20 (.I ((j:Nat):Int))),(.e 27 v),(.e 30 (.slice (some ⟨n83,0,none⟩) 1 1))] a80:=hR.keep (ts:=[1,3,4,18,19,20,27,30]) (by kernel_rfl)
    obtain ⟨v84,w85,hrun,hown2,hgr87⟩:=appI_run hown n83 y.dst (hM (⟨n83,0,none⟩,(.I y.dst)) (SX.mget_mem (i:=0) (by kernel_rfl))) (hiy.2.1) (by rw [List.length_append,upto_len]; have:=dsts_le b.ops j; omega)
    refine SX.list_run 4 (some 31) (appS 35 35 v (.slice (some ⟨n83,0,none⟩) 1 1)) v84 hR (by kernel_rfl) (by kernel_rfl) hrun ?_
    clear hR hrun; intro a86 hR
    have hgee88:=hown.ge
    have hqn83e88:∀ g,v.ownBlock=some g→n83≠g:=fun g hg=>by have h1:=hgee88 g hg; have h2:=hgn83hown g hg; omega
    have hqn68e88:∀ g,v.ownBlock=some g→n68≠g:=fun g hg=>by have h1:=hgee88 g hg; have h2:=hgn68hown g hg; omega
    have hqobye88:∀ g,v.ownBlock=some g→oby≠g:=fun g hg=>by have h1:=hgee88 g hg; omega
    have hqn5e88:∀ g,v.ownBlock=some g→n5≠g:=fun g hg=>by have h1:=hgee88 g hg; omega
    replace hB:=hB.grown hgr87 hB.size (fun g hg=>by have h1:=hgee88 g hg; omega)
    replace hM:=cells_grown hM hgr87 (gne_cons hqn83e88 (gne_cons hqn68e88 (gne_cons hqn68e88 (gne_cons hqn68e88 (gne_cons hqn68e88 (gne_cons hqn68e88 (gne_cons hqn68e88 (gne_cons hqn68e88 (gne_cons hqn68e88 (gne_cons hqn68e88 (gne_cons hqn68e88 (gne_cons hqn68e88 (gne_cons hqobye88 (gne_cons hqobye88 (gne_cons hqobye88 (gne_cons hqobye88 (gne_cons hqobye88 (gne_cons hqobye88 (gne_cons hqobye88 (gne_cons hqobye88 (gne_cons hqobye88 (gne_cons hqobye88 (gne_cons hqobye88 (gne_cons hqn5e88 (gne_cons hqn5e88 (gne_cons hqn5e88 (gne_cons hqn5e88 (gne_cons hqn5e88 (gne_cons hqn5e88 (gne_cons hqn5e88 (gne_cons hqn5e88 (gne_cons hqn5e88 (gne_cons hqn5e88 gne_nil)))))))))))))))))))))))))))))))))
    replace hkn68:=(hgr87.block _ (Array.getElem?_eq_some_iff.1 hkn68).1 (fun e=>(show ∀ g,v.ownBlock=some g→n68≠g from fun g hg=>by have h1:=hgee88 g hg; have h2:=hgn68hown g hg; omega) _ e.symm rfl)).trans hkn68
    replace hkn83:=(hgr87.block _ (Array.getElem?_eq_some_iff.1 hkn83).1 (fun e=>(show ∀ g,v.ownBlock=some g→n83≠g from fun g hg=>by have h1:=hgee88 g hg; have h2:=hgn83hown g hg; omega) _ e.symm rfl)).trans hkn83
    clear hown; have hown:=hown2; clear hown2
    replace hR:SX.RSt 34 [] [(.e 1 (.P n5)),(.e 3 v),(.e 4 (.I ((b.params.toNat:Nat):Int))),(.e 18 (.slice (some ⟨oby,ooy,none⟩) b.ops.length j1)),(.e 19 (.I ((b.ops.length:Nat):Int))),(.e 20 (.I ((j:Nat):Int))),(.e 31 v84)] a86:=hR.keep (ts:=[1,3,4,18,19,20,31]) (by kernel_rfl)
    refine SX.list_q0 (κ:=[]) 5 1 [.ld []] [1,3,4,18,19,20] [(.e 1 (.P n5)),(.e 3 v84),(.e 4 (.I ((b.params.toNat:Nat):Int))),(.e 18 (.slice (some ⟨oby,ooy,none⟩) b.ops.length j1)),(.e 19 (.I ((b.ops.length:Nat):Int))),(.e 20 (.I ((j:Nat):Int)))] hR hM (by kernel_rfl) (by kernel_rfl) ?_
    clear hR hM; intro a89 w90 hR hb91 hM
    replace hB:=hB.tr hb91
    replace hown:=hown.below hb91
    replace hkn68:=SX.blk_below hkn68 hb91
    replace hkn83:=SX.blk_below hkn83 hb91
    refine SX.list_end 6 (by kernel_rfl) ?_
    refine hK60 _ _ ?_
    refine SX.region_q [] [.nm (.I ((j+1:Nat):Int)),.ld []] [1,3,4,18,19,20] [(.e 1 (.P n5)),(.e 3 v84),(.e 4 (.I ((b.params.toNat:Nat):Int))),(.e 18 (.slice (some ⟨oby,ooy,none⟩) b.ops.length j1)),(.e 19 (.I ((b.ops.length:Nat):Int))),(.e 20 (.I ((j+1:Nat):Int)))] [] [] [] [([],(.I (IntKind.i64.wrap (((j:Nat):Int)+1))),(.I ((j+1:Nat):Int)))] hR hM mix (by kernel_rfl) (by kernel_rfl) (by kernel_rfl) (by kernel_rfl) trivial ⟨fun hg=>SX.wrap_ok (by omega),trivial⟩ (fun w' hb' hM'=>trivial) (fun w' hb' hM'=>trivial) ?_
    clear hR hM; intro a92 w93 hR hb94 hM
    replace hB:=hB.tr hb94
    replace hown:=hown.below hb94
    replace hkn68:=SX.blk_below hkn68 hb94
    replace hkn83:=SX.blk_below hkn83 hb94
    exact ⟨b.ops.length-(j+1),by omega,j+1,v84,rfl,by omega,hR.keep (ts:=[1,3,4,18,19,20]) (by kernel_rfl),hB,SX.cells_sub hM [23,24,25,26,27,28,29,30,31,32] (by kernel_rfl),by rw [dsts_yes hy h76,← List.append_assoc]; exact hown⟩
   ·skip
    refine wp_skip ?_
    refine hK60 _ _ ?_
    refine SX.region_q [] [.nm (.I ((j+1:Nat):Int)),.ld []] [1,3,4,18,19,20] [(.e 1 (.P n5)),(.e 3 v),(.e 4 (.I ((b.params.toNat:Nat):Int))),(.e 18 (.slice (some ⟨oby,ooy,none⟩) b.ops.length j1)),(.e 19 (.I ((b.ops.length:Nat):Int))),(.e 20 (.I ((j+1:Nat):Int)))] [] [] [] [([],(.I (IntKind.i64.wrap (((j:Nat):Int)+1))),(.I ((j+1:Nat):Int)))] hR hM mix (by kernel_rfl) (by kernel_rfl) (by kernel_rfl) (by kernel_rfl) trivial ⟨fun hg=>SX.wrap_ok (by omega),trivial⟩ (fun w' hb' hM'=>trivial) (fun w' hb' hM'=>trivial) ?_
    clear hR hM; intro a95 w96 hR hb97 hM
    replace hB:=hB.tr hb97
    replace hown:=hown.below hb97
    replace hkn68:=SX.blk_below hkn68 hb97
    exact ⟨b.ops.length-(j+1),by omega,j+1,v,rfl,by omega,hR.keep (ts:=[1,3,4,18,19,20]) (by kernel_rfl),hB,SX.cells_sub hM [22,23,24,25,26,27,28,29,30,31] (by kernel_rfl),by rw [dsts_no hy h76]; exact hown⟩
  ·skip
   refine wp_exit ?_
   refine hK46 _ _ ?_
   refine wp_seq_k fun K98 hK98=>?_
   refine SX.region_q0 [.ld [],.ld []] [1,2,3,4,18,19,20] [(.e 1 (.P n5)),(.e 2 v),(.e 3 v),(.e 4 (.I ((b.params.toNat:Nat):Int))),(.e 18 (.slice B1 b.ops.length j1)),(.e 19 (.I ((b.ops.length:Nat):Int))),(.e 20 (.I ((j:Nat):Int)))] hR hM mix (by kernel_rfl) (by kernel_rfl) (by kernel_rfl) (by kernel_rfl) ?_
   clear hR hM; intro a99 w100 hR hb101 hM
   replace hB:=hB.tr hb101
   replace hown:=hown.below hb101
   refine hK98 _ _ ?_
   refine wp_ret ?_
   try simp only [Exit.then,Exit.inBlock,Nat.reduceEqDiff,↓reduceIte]
   refine SX.ret_ 2 v Try.results86 hR (by kernel_rfl) ?_
   clear hR hM mix hK1 hzn5 hb4 hkn5 hln5 hn5 hb8 hK9 hb12 hK13 hK14 hb17 hm20 hK21 hK22 hb25 hK46 hK47 hb50 hm53 hK54 hb57 hK58 hK98 hb101
   exact ⟨_,rfl,hB,by rw [values_take (le_of_dec h59)] at hown; exact hown.at_,fun g hg=>by have:=hown.ge g hg; omega⟩
end Go.Proofs.Ytlkcidmmpeebeaa
