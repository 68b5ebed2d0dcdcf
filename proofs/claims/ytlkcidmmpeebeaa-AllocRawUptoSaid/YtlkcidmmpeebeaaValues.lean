/- Proved: ref06.Values -/
import Derived.Test.YtlkcidmmpeebeaaOwn
import Derived.Test.YtlkcidmmpeebeaaIrCheck
set_option linter.unusedVariables false
set_option linter.unusedSimpArgs false
namespace Go.Proofs.Ytlkcidmmpeebeaa
open Go.RowKit
set_option maxRecDepth 100000
theorem dsts_yes {ops:List OpD} {k:Nat} {o:OpD} (hx:ops[k]?=some o) (hd:R.defines o.kind=true):dsts (ops.take (k+1))=dsts (ops.take k)++[o.dst]:=by
 obtain ⟨hk,rfl⟩:=List.getElem?_eq_some_iff.1 hx
 rw [List.take_succ_eq_append_getElem hk,dsts_snoc,hd]; rfl
theorem dsts_no {ops:List OpD} {k:Nat} {o:OpD} (hx:ops[k]?=some o) (hd:R.defines o.kind=false):dsts (ops.take (k+1))=dsts (ops.take k):=by
 obtain ⟨hk,rfl⟩:=List.getElem?_eq_some_iff.1 hx
 rw [List.take_succ_eq_append_getElem hk,dsts_snoc,hd]; rfl
theorem dsts_le (ops:List OpD) (k:Nat):(dsts (ops.take k)).length≤ops.length:=by
 unfold dsts
 rw [List.length_map]
 exact Nat.le_trans (List.length_filter_le _ _) (by rw [List.length_take]; omega)
theorem values_take {b:BlockD} {k:Nat} (h:b.ops.length≤k):R.upto b.params++dsts (b.ops.take k)=R.values b:=by rw [List.take_of_length_le h]; rfl
theorem upto_len (n:Int):(R.upto n).length=n.toNat:=by simp [R.upto]

set_option maxHeartbeats 400000 in
theorem values_any (w:World) (b:BlockD) (u1 u2 u3 u4:Value) (hb:BlkAt w u1 u2 u3 u4 b) (hbp:0≤b.params∧b.params≤999) (hol:b.ops.length≤6000):Calls Try.prog 86 #[(.agg #[.I b.params,u1,.I b.term.kind,.I b.term.a,.I b.term.n,u2,.I b.term.b0,u3,.I b.term.b1,u4])] w (SX.Ret (fun v w'=>IntsAt w' v (R.values b)∧Fresh w.heap.size v) w):=by
 have hb0:=hb
 obtain ⟨B1,j1,rfl,t1⟩:=hb.2.1.shape
 obtain ⟨B2,j2,rfl,t2⟩:=hb.2.2.1.shape
 obtain ⟨B3,j3,rfl,t3⟩:=hb.2.2.2.1.shape
 obtain ⟨B4,j4,rfl,t4⟩:=hb.2.2.2.2.shape
 unfold Shape at t1 t2 t3 t4
 have mix:=mixed
 have hB:Below w.heap.size w w:=Below.refl _ _
 have hM:SX.Cells w []:=SX.cells_nil
 refine SX.enter [(.agg #[.I b.params,.slice B1 b.ops.length j1,.I b.term.kind,.I b.term.a,.I b.term.n,.slice B2 b.term.args.length j2,.I b.term.b0,.slice B3 b.term.args0.length j3,.I b.term.b1,.slice B4 b.term.args1.length j4])] 34 Try.func86 rfl rfl (by kernel_rfl) ?_
 intro a hR
 refine wp_seq_k fun K1 hK1=>?_
 refine SX.region_l ?_
 obtain ⟨n5,hn5⟩:∃ n,w.heap.size=n:=⟨_,rfl⟩
 have hzn5:w.heap.size≤n5:=by have:=hB.size; omega
 refine SX.list_box 0 n5 [(.I b.params),(.slice B1 b.ops.length j1),(.I b.term.kind),(.I b.term.a),(.I b.term.n),(.slice B2 b.term.args.length j2),(.I b.term.b0),(.slice B3 b.term.args0.length j3),(.I b.term.b1),(.slice B4 b.term.args1.length j4)] 62 ((.e 1 (.P n5))::[(.e 0 (.agg #[.I b.params,.slice B1 b.ops.length j1,.I b.term.kind,.I b.term.a,.I b.term.n,.slice B2 b.term.args.length j2,.I b.term.b0,.slice B3 b.term.args0.length j3,.I b.term.b1,.slice B4 b.term.args1.length j4]))]) [(⟨n5,0,none⟩,(.I b.params)),(⟨n5,1,none⟩,(.slice B1 b.ops.length j1)),(⟨n5,2,none⟩,(.I b.term.kind)),(⟨n5,3,none⟩,(.I b.term.a)),(⟨n5,4,none⟩,(.I b.term.n)),(⟨n5,5,none⟩,(.slice B2 b.term.args.length j2)),(⟨n5,6,none⟩,(.I b.term.b0)),(⟨n5,7,none⟩,(.slice B3 b.term.args0.length j3)),(⟨n5,8,none⟩,(.I b.term.b1)),(⟨n5,9,none⟩,(.slice B4 b.term.args1.length j4))] hR hM hn5 (by kernel_rfl) (by kernel_rfl) ?_
 clear hR hM; intro a2 w3 hR hb4 hM hkn5 hln5
 replace hB:=hB.tr hb4
 replace hR:SX.RSt 34 [] [(.e 1 (.P n5))] a2:=hR.keep (ts:=[1]) (by kernel_rfl)
 refine SX.list_q0 (κ:=[]) 1 1 [.ld []] [1] [(.e 1 (.P n5))] hR hM (by kernel_rfl) (by kernel_rfl) ?_
 clear hR hM; intro a6 w7 hR hb8 hM
 replace hB:=hB.tr hb8
 replace hkn5:=SX.blk_below hkn5 hb8
 refine SX.list_end 2 (by kernel_rfl) ?_
 refine hK1 _ _ ?_
 refine SX.qs [.ld []] [1,3] [(.e 3 (.slice none 0 0))] hR hM hB mix fun a9 w10 hR hb11 hB hM=>?_
 replace hkn5:=SX.blk_below hkn5 hb11
 obtain ⟨Bs,hBs⟩:∃ n,w10.heap.size=n:=⟨_,rfl⟩
 have hzBs:w.heap.size≤Bs:=by have:=hB.size; omega
 have qn5Bs:n5<Bs:=by have:=(Array.getElem?_eq_some_iff.1 hkn5).1; omega
 have hown:IntsOwn w10 Bs (.slice none 0 0) []:=IntsOwn.nil (by omega)
 clear hBs
 refine wp_seq_k fun K12 hK12=>?_
 refine SX.qs [.ld []] [1,3,4] [(.e 4 (.I 0))] hR hM hB mix fun a13 w14 hR hb15 hB hM=>?_
 replace hown:=hown.below hb15
 replace hkn5:=SX.blk_below hkn5 hb15
 refine wp_block ?_
 refine wp_loop_ghost (fun m18 a' w'=>∃ k:Nat,∃ v:Value,m18=b.params.toNat-k∧k≤b.params.toNat∧SX.RSt 34 [] [(.e 1 (.P n5)),(.e 3 v),(.e 4 (.I (k:Int)))] a'∧Below w.heap.size w w'∧SX.Cells w' [(⟨n5,0,none⟩,(.I b.params)),(⟨n5,1,none⟩,(.slice B1 b.ops.length j1)),(⟨n5,2,none⟩,(.I b.term.kind)),(⟨n5,3,none⟩,(.I b.term.a)),(⟨n5,4,none⟩,(.I b.term.n)),(⟨n5,5,none⟩,(.slice B2 b.term.args.length j2)),(⟨n5,6,none⟩,(.I b.term.b0)),(⟨n5,7,none⟩,(.slice B3 b.term.args0.length j3)),(⟨n5,8,none⟩,(.I b.term.b1)),(⟨n5,9,none⟩,(.slice B4 b.term.args1.length j4))]∧IntsOwn w' Bs v (uptoN (k))) (b.params.toNat-0) ⟨0,(.slice none 0 0),rfl,Nat.zero_le _,hR.keep (ts:=[1,3,4]) (by kernel_rfl),hB,hM,hown⟩ ?_
 clear hR hM hB
 rintro m18 a16 w17 ⟨k,v,hm18,hlek,hR,hB,hM,hIk⟩
 have hown:=hIk
 refine wp_seq_k fun K19 hK19=>?_
 refine SX.qs [.ld [],.ld [],.ld [0],.ld []] [1,3,4,10] [(.e 10 (.bool (decide ((k:Int)<b.params))))] hR hM hB mix fun a20 w21 hR hb22 hB hM=>?_
 replace hown:=hown.below hb22
 refine SX.cond_ (decide ((k:Int)<b.params)) hR (by kernel_rfl) (fun h23=>?_) (fun h23=>?_)
 ·skip
  refine wp_skip ?_
  refine hK19 _ _ ?_
  refine wp_seq_k fun K24 hK24=>?_
  refine wp_block ?_
  have hlt:k<b.params.toNat:=by have:=of_decide_eq_true h23; omega
  refine SX.region_l ?_
  refine SX.list_q0 (κ:=[]) 0 2 [.ld [],.ld []] [1,3,4,13,14] [(.e 1 (.P n5)),(.e 3 v),(.e 4 (.I (k:Int))),(.e 13 v),(.e 14 (.I (k:Int)))] hR hM (by kernel_rfl) (by kernel_rfl) ?_
  clear hR hM; intro a25 w26 hR hb27 hM
  replace hB:=hB.tr hb27
  replace hown:=hown.below hb27
  obtain ⟨n31,hn31⟩:∃ n,w26.heap.size=n:=⟨_,rfl⟩
  have hzn31:w.heap.size≤n31:=by have:=hB.size; omega
  have hgn31hown:=hown.lt hn31
  refine SX.list_box 2 n31 [(.I (k:Int))] 3 ((.e 15 (.slice (some ⟨n31,0,none⟩) 1 1))::[(.e 1 (.P n5)),(.e 3 v),(.e 4 (.I (k:Int))),(.e 13 v),(.e 14 (.I (k:Int)))]) [(⟨n31,0,none⟩,(.I (k:Int))),(⟨n5,0,none⟩,(.I b.params)),(⟨n5,1,none⟩,(.slice B1 b.ops.length j1)),(⟨n5,2,none⟩,(.I b.term.kind)),(⟨n5,3,none⟩,(.I b.term.a)),(⟨n5,4,none⟩,(.I b.term.n)),(⟨n5,5,none⟩,(.slice B2 b.term.args.length j2)),(⟨n5,6,none⟩,(.I b.term.b0)),(⟨n5,7,none⟩,(.slice B3 b.term.args0.length j3)),(⟨n5,8,none⟩,(.I b.term.b1)),(⟨n5,9,none⟩,(.slice B4 b.term.args1.length j4))] hR hM hn31 (by kernel_rfl) (by kernel_rfl) ?_
  clear hR hM; intro a28 w29 hR hb30 hM hkn31 hln31
  replace hB:=hB.tr hb30
  replace hown:=hown.below hb30
  replace hR:SX.RSt 34 [] [(.e 1 (.P n5)),(.e 3 v),(.e 4 (.I (k:Int))),(.e 13 v),(.e 15 (.slice (some ⟨n31,0,none⟩) 1 1))] a28:=hR.keep (ts:=[1,3,4,13,15]) (by kernel_rfl)
  obtain ⟨v32,w33,hrun,hown2,hgr35⟩:=appI_run hown n31 (k:Int) (hM (⟨n31,0,none⟩,(.I (k:Int))) (SX.mget_mem (i:=0) (by kernel_rfl))) (by unfold I64; omega) (by rw [uptoN_len]; omega)
  refine SX.list_run 3 (some 16) (appS 35 35 v (.slice (some ⟨n31,0,none⟩) 1 1)) v32 hR (by kernel_rfl) (by kernel_rfl) hrun ?_
  clear hR hrun; intro a34 hR
  have hgee36:=hown.ge
  have hqn31e36:∀ g,v.ownBlock=some g→n31≠g:=fun g hg=>by have h1:=hgee36 g hg; have h2:=hgn31hown g hg; omega
  have hqn5e36:∀ g,v.ownBlock=some g→n5≠g:=fun g hg=>by have h1:=hgee36 g hg; omega
  replace hB:=hB.grown hgr35 hB.size (fun g hg=>by have h1:=hgee36 g hg; omega)
  replace hM:=cells_grown hM hgr35 (gne_cons hqn31e36 (gne_cons hqn5e36 (gne_cons hqn5e36 (gne_cons hqn5e36 (gne_cons hqn5e36 (gne_cons hqn5e36 (gne_cons hqn5e36 (gne_cons hqn5e36 (gne_cons hqn5e36 (gne_cons hqn5e36 (gne_cons hqn5e36 gne_nil)))))))))))
  replace hkn31:=(hgr35.block _ (Array.getElem?_eq_some_iff.1 hkn31).1 (fun e=>(show ∀ g,v.ownBlock=some g→n31≠g from fun g hg=>by have h1:=hgee36 g hg; have h2:=hgn31hown g hg; omega) _ e.symm rfl)).trans hkn31
  clear hown; have hown:=hown2; clear hown2
  replace hR:SX.RSt 34 [] [(.e 1 (.P n5)),(.e 3 v),(.e 4 (.I (k:Int))),(.e 16 v32)] a34:=hR.keep (ts:=[1,3,4,16]) (by kernel_rfl)
  refine SX.list_q0 (κ:=[]) 4 1 [.ld []] [1,3,4] [(.e 1 (.P n5)),(.e 3 v32),(.e 4 (.I (k:Int)))] hR hM (by kernel_rfl) (by kernel_rfl) ?_
  clear hR hM; intro a37 w38 hR hb39 hM
  replace hB:=hB.tr hb39
  replace hown:=hown.below hb39
  replace hkn31:=SX.blk_below hkn31 hb39
  refine SX.list_end 5 (by kernel_rfl) ?_
  refine hK24 _ _ ?_
  refine SX.qf0 [] [.ld [],.nm (.I ((k+1:Nat):Int)),.ld []] [1,3,4] [(.e 4 (.I ((k+1:Nat):Int)))] [] [] [] [([],(.I (IntKind.i64.wrap ((k:Int)+1))),(.I ((k+1:Nat):Int)))] hR hM hB mix trivial ⟨fun hg=>SX.wrap_ok (by omega),trivial⟩ (fun w' hb' hM'=>trivial) (fun w' hb' hM'=>trivial) fun a40 w41 hR hb42 hB hM=>?_
  replace hown:=hown.below hb42
  replace hkn31:=SX.blk_below hkn31 hb42
  exact ⟨b.params.toNat-(k+1),by omega,k+1,v32,rfl,by omega,hR.keep (ts:=[1,3,4]) (by kernel_rfl),hB,SX.cells_sub hM [1,2,3,4,5,6,7,8,9,10] (by kernel_rfl),by rw [uptoN_succ]; exact hown⟩
 ·skip
  refine wp_exit ?_
  refine hK12 _ _ ?_
  refine wp_seq_k fun K43 hK43=>?_
  obtain rfl:k=b.params.toNat:=by have:=of_decide_eq_false h23; omega
  rw [← upto_eq] at hown
  refine SX.qs [.ld [],.ld [1],.ld [],.ld []] [1,3,4,18,19,20] [(.e 18 (.slice B1 b.ops.length j1)),(.e 19 (.I (b.ops.length:Int))),(.e 20 (.I 0))] hR hM hB mix fun a44 w45 hR hb46 hB hM=>?_
  replace hown:=hown.below hb46
  refine wp_block ?_
  refine wp_loop_ghost (fun m49 a' w'=>∃ j:Nat,∃ v:Value,m49=b.ops.length-j∧j≤b.ops.length∧SX.RSt 34 [] [(.e 1 (.P n5)),(.e 3 v),(.e 4 (.I (b.params.toNat:Int))),(.e 18 (.slice B1 b.ops.length j1)),(.e 19 (.I (b.ops.length:Int))),(.e 20 (.I (j:Int)))] a'∧Below w.heap.size w w'∧SX.Cells w' [(⟨n5,0,none⟩,(.I b.params)),(⟨n5,1,none⟩,(.slice B1 b.ops.length j1)),(⟨n5,2,none⟩,(.I b.term.kind)),(⟨n5,3,none⟩,(.I b.term.a)),(⟨n5,4,none⟩,(.I b.term.n)),(⟨n5,5,none⟩,(.slice B2 b.term.args.length j2)),(⟨n5,6,none⟩,(.I b.term.b0)),(⟨n5,7,none⟩,(.slice B3 b.term.args0.length j3)),(⟨n5,8,none⟩,(.I b.term.b1)),(⟨n5,9,none⟩,(.slice B4 b.term.args1.length j4))]∧IntsOwn w' Bs v (R.upto b.params++dsts (b.ops.take (j)))) (b.ops.length-0) ⟨0,v,rfl,Nat.zero_le _,hR.keep (ts:=[1,3,4,18,19,20]) (by kernel_rfl),hB,hM,by rw [List.take_zero]; simpa [dsts] using hown⟩ ?_
  clear hR hM hB
  rintro m49 a47 w48 ⟨j,v,hm49,hlej,hR,hB,hM,hIj⟩
  have hown:=hIj
  refine SX.qs [.ld []] [1,3,4,18,19,20,21] [(.e 21 (.bool (decide ((j:Int)<(b.ops.length:Int)))))] hR hM hB mix fun a50 w51 hR hb52 hB hM=>?_
  replace hown:=hown.below hb52
  refine wp_seq_k fun K53 hK53=>?_
  refine SX.cond_ (decide ((j:Int)<(b.ops.length:Int))) hR (by kernel_rfl) (fun h54=>?_) (fun h54=>?_)
  ·skip
   refine wp_skip ?_
   refine hK53 _ _ ?_
   refine wp_seq_k fun K55 hK55=>?_
   refine wp_block ?_
   refine wp_seq_k fun K56 hK56=>?_
   have hlt:j<b.ops.length:=lt_of_dec h54
   obtain ⟨y,hy⟩:=get_of_lt hlt
   obtain ⟨oby,ooy,hAy,hiy,co0y,co1y,co2y,co3y,co4y,co5y,co6y,co7y,co8y,co9y,co10y⟩:=hb0.2.1.elem hy
   subst hAy
   have hoy:oby<w.heap.size:=World.block_lt_of_cell? w _ co0y
   replace hM:=(SX.cells_add (cell_below hB co0y) (SX.cells_add (cell_below hB co1y) (SX.cells_add (cell_below hB co2y) (SX.cells_add (cell_below hB co3y) (SX.cells_add (cell_below hB co4y) (SX.cells_add (cell_below hB co5y) (SX.cells_add (cell_below hB co6y) (SX.cells_add (cell_below hB co7y) (SX.cells_add (cell_below hB co8y) (SX.cells_add (cell_below hB co9y) (SX.cells_add (cell_below hB co10y) hM)))))))))))
   refine SX.region_l ?_
   refine SX.list_q (κ:=[]) 0 2 [.ix ⟨oby,ooy+j*11,none⟩,.ld [0,1,2,3,4,5,6,7,8,9,10]] [1,3,4,18,19,20,23] [(.e 1 (.P n5)),(.e 3 v),(.e 4 (.I (b.params.toNat:Int))),(.e 18 (.slice (some ⟨oby,ooy,none⟩) b.ops.length j1)),(.e 19 (.I (b.ops.length:Int))),(.e 20 (.I (j:Int))),(.e 23 (.agg #[.I y.kind,.I y.dst,.I y.a,.I y.b,.I y.n,.I y.ctx,.I y.var,.I y.piece,.I y.sk,.I y.sv,.I y.sa]))] [([],⟨oby,ooy,none⟩,b.ops.length,(j:Int),11,⟨oby,ooy+j*11,none⟩)] [] [] [] hR hM (by kernel_rfl) (by kernel_rfl) ⟨fun hg=>SX.ix_ok (by omega),trivial⟩ trivial (fun w' hb' hM'=>trivial) (fun w' hb' hM'=>trivial) ?_
   clear hR hM; intro a57 w58 hR hb59 hM
   replace hB:=hB.tr hb59
   replace hown:=hown.below hb59
   obtain ⟨n63,hn63⟩:∃ n,w58.heap.size=n:=⟨_,rfl⟩
   have hzn63:w.heap.size≤n63:=by have:=hB.size; omega
   have hgn63hown:=hown.lt hn63
   refine SX.list_alloc 2 n63 [(.I 0),(.I 0),(.I 0),(.I 0),(.I 0),(.I 0),(.I 0),(.I 0),(.I 0),(.I 0),(.I 0)] 74 ((.e 6 (.P n63))::[(.e 1 (.P n5)),(.e 3 v),(.e 4 (.I (b.params.toNat:Int))),(.e 18 (.slice (some ⟨oby,ooy,none⟩) b.ops.length j1)),(.e 19 (.I (b.ops.length:Int))),(.e 20 (.I (j:Int))),(.e 23 (.agg #[.I y.kind,.I y.dst,.I y.a,.I y.b,.I y.n,.I y.ctx,.I y.var,.I y.piece,.I y.sk,.I y.sv,.I y.sa]))]) hR hM hn63 (by kernel_rfl) ?_
   clear hR hM; intro a60 w61 hR hb62 hM hkn63 hln63 hnen63
   replace hB:=hB.tr hb62
   replace hown:=hown.below hb62
   replace hR:SX.RSt 34 [] [(.e 1 (.P n5)),(.e 3 v),(.e 4 (.I (b.params.toNat:Int))),(.e 6 (.P n63)),(.e 18 (.slice (some ⟨oby,ooy,none⟩) b.ops.length j1)),(.e 19 (.I (b.ops.length:Int))),(.e 20 (.I (j:Int))),(.e 23 (.agg #[.I y.kind,.I y.dst,.I y.a,.I y.b,.I y.n,.I y.ctx,.I y.var,.I y.piece,.I y.sk,.I y.sv,.I y.sa]))] a60:=hR.keep (ts:=[1,3,4,6,18,19,20,23]) (by kernel_rfl)
   refine SX.list_store 3 [(0,(.I y.kind)),(1,(.I y.dst)),(2,(.I y.a)),(3,(.I y.b)),(4,(.I y.n)),(5,(.I y.ctx)),(6,(.I y.var)),(7,(.I y.piece)),(8,(.I y.sk)),(9,(.I y.sv)),(10,(.I y.sa))] [(.I y.kind),(.I y.dst),(.I y.a),(.I y.b),(.I y.n),(.I y.ctx),(.I y.var),(.I y.piece),(.I y.sk),(.I y.sv),(.I y.sa)] [(⟨oby,ooy+j*11,none⟩,(.I y.kind)),(⟨oby,ooy+j*11+1,none⟩,(.I y.dst)),(⟨oby,ooy+j*11+2,none⟩,(.I y.a)),(⟨oby,ooy+j*11+3,none⟩,(.I y.b)),(⟨oby,ooy+j*11+4,none⟩,(.I y.n)),(⟨oby,ooy+j*11+5,none⟩,(.I y.ctx)),(⟨oby,ooy+j*11+6,none⟩,(.I y.var)),(⟨oby,ooy+j*11+7,none⟩,(.I y.piece)),(⟨oby,ooy+j*11+8,none⟩,(.I y.sk)),(⟨oby,ooy+j*11+9,none⟩,(.I y.sv)),(⟨oby,ooy+j*11+10,none⟩,(.I y.sa)),(⟨n5,0,none⟩,(.I b.params)),(⟨n5,1,none⟩,(.slice (some ⟨oby,ooy,none⟩) b.ops.length j1)),(⟨n5,2,none⟩,(.I b.term.kind)),(⟨n5,3,none⟩,(.I b.term.a)),(⟨n5,4,none⟩,(.I b.term.n)),(⟨n5,5,none⟩,(.slice B2 b.term.args.length j2)),(⟨n5,6,none⟩,(.I b.term.b0)),(⟨n5,7,none⟩,(.slice B3 b.term.args0.length j3)),(⟨n5,8,none⟩,(.I b.term.b1)),(⟨n5,9,none⟩,(.slice B4 b.term.args1.length j4))] [(⟨n63,0,none⟩,(.I y.kind)),(⟨n63,1,none⟩,(.I y.dst)),(⟨n63,2,none⟩,(.I y.a)),(⟨n63,3,none⟩,(.I y.b)),(⟨n63,4,none⟩,(.I y.n)),(⟨n63,5,none⟩,(.I y.ctx)),(⟨n63,6,none⟩,(.I y.var)),(⟨n63,7,none⟩,(.I y.piece)),(⟨n63,8,none⟩,(.I y.sk)),(⟨n63,9,none⟩,(.I y.sv)),(⟨n63,10,none⟩,(.I y.sa)),(⟨oby,ooy+j*11,none⟩,(.I y.kind)),(⟨oby,ooy+j*11+1,none⟩,(.I y.dst)),(⟨oby,ooy+j*11+2,none⟩,(.I y.a)),(⟨oby,ooy+j*11+3,none⟩,(.I y.b)),(⟨oby,ooy+j*11+4,none⟩,(.I y.n)),(⟨oby,ooy+j*11+5,none⟩,(.I y.ctx)),(⟨oby,ooy+j*11+6,none⟩,(.I y.var)),(⟨oby,ooy+j*11+7,none⟩,(.I y.piece)),(⟨oby,ooy+j*11+8,none⟩,(.I y.sk)),(⟨oby,ooy+j*11+9,none⟩,(.I y.sv)),(⟨oby,ooy+j*11+10,none⟩,(.I y.sa)),(⟨n5,0,none⟩,(.I b.params)),(⟨n5,1,none⟩,(.slice (some ⟨oby,ooy,none⟩) b.ops.length j1)),(⟨n5,2,none⟩,(.I b.term.kind)),(⟨n5,3,none⟩,(.I b.term.a)),(⟨n5,4,none⟩,(.I b.term.n)),(⟨n5,5,none⟩,(.slice B2 b.term.args.length j2)),(⟨n5,6,none⟩,(.I b.term.b0)),(⟨n5,7,none⟩,(.slice B3 b.term.args0.length j3)),(⟨n5,8,none⟩,(.I b.term.b1)),(⟨n5,9,none⟩,(.slice B4 b.term.args1.length j4))] hR (SX.cells_sub hM [0,1,2,3,4,5,6,7,8,9,10,11,12,13,14,15,16,17,18,19,20] (by kernel_rfl)) hnen63 hkn63 (by kernel_rfl) (by kernel_rfl) (by kernel_rfl) ?_
   clear hR hM hkn63; intro a64 w65 hR hb66 hM hkn63
   replace hB:=hB.trans (hb66.below (by omega))
   replace hown:=hown.but hb66 (fun g hg=>Nat.ne_of_lt (hgn63hown g hg))
   refine SX.list_end 4 (by kernel_rfl) ?_
   refine hK56 _ _ ?_
   refine SX.qf [] [.ld [],.ld [0],.cl (.bool (R.defines y.kind))] [1,3,4,6,18,19,20,26] [(.e 26 (.bool (R.defines y.kind)))] [] [] [([],90,#[(.I y.kind)],(.bool (R.defines y.kind)))] [] hR hM hB mix trivial trivial (fun w' hb' hM'=>trivial) (fun w' hb' hM'=>⟨fun hg=>SX.pureC (defines_any _ _),trivial⟩) fun a67 w68 hR hb69 hB hM=>?_
   replace hown:=hown.below hb69
   replace hkn63:=SX.blk_below hkn63 hb69
   refine SX.cond_ (R.defines y.kind) hR (by kernel_rfl) (fun h70=>?_) (fun h70=>?_)
   ·skip
    refine SX.region_l ?_
    refine SX.list_q0 (κ:=[]) 0 3 [.ld [],.ld [],.ld [1]] [1,3,4,18,19,20,27,29] [(.e 1 (.P n5)),(.e 3 v),(.e 4 (.I (b.params.toNat:Int))),(.e 18 (.slice (some ⟨oby,ooy,none⟩) b.ops.length j1)),(.e 19 (.I (b.ops.length:Int))),(.e 20 (.I (j:Int))),(.e 27 v),(.e 29 (.I y.dst))] hR hM (by kernel_rfl) (by kernel_rfl) ?_
    clear hR hM; intro a71 w72 hR hb73 hM
    replace hB:=hB.tr hb73
    replace hown:=hown.below hb73
    replace hkn63:=SX.blk_below hkn63 hb73
    obtain ⟨n77,hn77⟩:∃ n,w72.heap.size=n:=⟨_,rfl⟩
    have hzn77:w.heap.size≤n77:=by have:=hB.size; omega
    have hgn77hown:=hown.lt hn77
    have qn63n77:n63<n77:=by have:=(Array.getElem?_eq_some_iff.1 hkn63).1; omega
    refine SX.list_box 3 n77 [(.I y.dst)] 3 ((.e 30 (.slice (some ⟨n77,0,none⟩) 1 1))::[(.e 1 (.P n5)),(.e 3 v),(.e 4 (.I (b.params.toNat:Int))),(.e 18 (.slice (some ⟨oby,ooy,none⟩) b.ops.length j1)),(.e 19 (.I (b.ops.length:Int))),(.e 20 (.I (j:Int))),(.e 27 v),(.e 29 (.I y.dst))]) [(⟨n77,0,none⟩,(.I y.dst)),(⟨n63,0,none⟩,(.I y.kind)),(⟨n63,1,none⟩,(.I y.dst)),(⟨n63,2,none⟩,(.I y.a)),(⟨n63,3,none⟩,(.I y.b)),(⟨n63,4,none⟩,(.I y.n)),(⟨n63,5,none⟩,(.I y.ctx)),(⟨n63,6,none⟩,(.I y.var)),(⟨n63,7,none⟩,(.I y.piece)),(⟨n63,8,none⟩,(.I y.sk)),(⟨n63,9,none⟩,(.I y.sv)),(⟨n63,10,none⟩,(.I y.sa)),(⟨oby,ooy+j*11,none⟩,(.I y.kind)),(⟨oby,ooy+j*11+1,none⟩,(.I y.dst)),(⟨oby,ooy+j*11+2,none⟩,(.I y.a)),(⟨oby,ooy+j*11+3,none⟩,(.I y.b)),(⟨oby,ooy+j*11+4,none⟩,(.I y.n)),(⟨oby,ooy+j*11+5,none⟩,(.I y.ctx)),(⟨oby,ooy+j*11+6,none⟩,(.I y.var)),(⟨oby,ooy+j*11+7,none⟩,(.I y.piece)),(⟨oby,ooy+j*11+8,none⟩,(.I y.sk)),(⟨oby,ooy+j*11+9,none⟩,(.I y.sv)),(⟨oby,ooy+j*11+10,none⟩,(.I y.sa)),(⟨n5,0,none⟩,(.I b.params)),(⟨n5,1,none⟩,(.slice (some ⟨oby,ooy,none⟩) b.ops.length j1)),(⟨n5,2,none⟩,(.I b.term.kind)),(⟨n5,3,none⟩,(.I b.term.a)),(⟨n5,4,none⟩,(.I b.term.n)),(⟨n5,5,none⟩,(.slice B2 b.term.args.length j2)),(⟨n5,6,none⟩,(.I b.term.b0)),(⟨n5,7,none⟩,(.slice B3 b.term.args0.length j3)),(⟨n5,8,none⟩,(.I b.term.b1)),(⟨n5,9,none⟩,(.slice B4 b.term.args1.length j4))] hR hM hn77 (by kernel_rfl) (by kernel_rfl) ?_
    clear hR hM; intro a74 w75 hR hb76 hM hkn77 hln77
    replace hB:=hB.tr hb76
    replace hown:=hown.below hb76
    replace hkn63:=SX.blk_below hkn63 hb76
    replace hR:SX.RSt 34 [] [(.e 1 (.P n5)),(.e 3 v),(.e 4 (.I (b.params.toNat:Int))),(.e 18 (.slice (some ⟨oby,ooy,none⟩) b.ops.length j1)),(.e 19 (.I (b.ops.length:Int))),(.e 20 (.I (j:Int))),(.e 27 v),(.e 30 (.slice (some ⟨n77,0,none⟩) 1 1))] a74:=hR.keep (ts:=[1,3,4,18,19,20,27,30]) (by kernel_rfl)
    obtain ⟨v78,w79,hrun,hown2,hgr81⟩:=appI_run hown n77 y.dst (hM (⟨n77,0,none⟩,(.I y.dst)) (SX.mget_mem (i:=0) (by kernel_rfl))) (hiy.2.1) (by rw [List.length_append,upto_len]; have:=dsts_le b.ops j; omega)
    refine SX.list_run 4 (some 31) (appS 35 35 v (.slice (some ⟨n77,0,none⟩) 1 1)) v78 hR (by kernel_rfl) (by kernel_rfl) hrun ?_
    clear hR hrun; intro a80 hR
    have hgee82:=hown.ge
    have hqn77e82:∀ g,v.ownBlock=some g→n77≠g:=fun g hg=>by have h1:=hgee82 g hg; have h2:=hgn77hown g hg; omega
    have hqn63e82:∀ g,v.ownBlock=some g→n63≠g:=fun g hg=>by have h1:=hgee82 g hg; have h2:=hgn63hown g hg; omega
    have hqobye82:∀ g,v.ownBlock=some g→oby≠g:=fun g hg=>by have h1:=hgee82 g hg; omega
    have hqn5e82:∀ g,v.ownBlock=some g→n5≠g:=fun g hg=>by have h1:=hgee82 g hg; omega
    replace hB:=hB.grown hgr81 hB.size (fun g hg=>by have h1:=hgee82 g hg; omega)
    replace hM:=cells_grown hM hgr81 (gne_cons hqn77e82 (gne_cons hqn63e82 (gne_cons hqn63e82 (gne_cons hqn63e82 (gne_cons hqn63e82 (gne_cons hqn63e82 (gne_cons hqn63e82 (gne_cons hqn63e82 (gne_cons hqn63e82 (gne_cons hqn63e82 (gne_cons hqn63e82 (gne_cons hqn63e82 (gne_cons hqobye82 (gne_cons hqobye82 (gne_cons hqobye82 (gne_cons hqobye82 (gne_cons hqobye82 (gne_cons hqobye82 (gne_cons hqobye82 (gne_cons hqobye82 (gne_cons hqobye82 (gne_cons hqobye82 (gne_cons hqobye82 (gne_cons hqn5e82 (gne_cons hqn5e82 (gne_cons hqn5e82 (gne_cons hqn5e82 (gne_cons hqn5e82 (gne_cons hqn5e82 (gne_cons hqn5e82 (gne_cons hqn5e82 (gne_cons hqn5e82 (gne_cons hqn5e82 gne_nil)))))))))))))))))))))))))))))))))
    replace hkn63:=(hgr81.block _ (Array.getElem?_eq_some_iff.1 hkn63).1 (fun e=>(show ∀ g,v.ownBlock=some g→n63≠g from fun g hg=>by have h1:=hgee82 g hg; have h2:=hgn63hown g hg; omega) _ e.symm rfl)).trans hkn63
    replace hkn77:=(hgr81.block _ (Array.getElem?_eq_some_iff.1 hkn77).1 (fun e=>(show ∀ g,v.ownBlock=some g→n77≠g from fun g hg=>by have h1:=hgee82 g hg; have h2:=hgn77hown g hg; omega) _ e.symm rfl)).trans hkn77
    clear hown; have hown:=hown2; clear hown2
    replace hR:SX.RSt 34 [] [(.e 1 (.P n5)),(.e 3 v),(.e 4 (.I (b.params.toNat:Int))),(.e 18 (.slice (some ⟨oby,ooy,none⟩) b.ops.length j1)),(.e 19 (.I (b.ops.length:Int))),(.e 20 (.I (j:Int))),(.e 31 v78)] a80:=hR.keep (ts:=[1,3,4,18,19,20,31]) (by kernel_rfl)
    refine SX.list_q0 (κ:=[]) 5 1 [.ld []] [1,3,4,18,19,20] [(.e 1 (.P n5)),(.e 3 v78),(.e 4 (.I (b.params.toNat:Int))),(.e 18 (.slice (some ⟨oby,ooy,none⟩) b.ops.length j1)),(.e 19 (.I (b.ops.length:Int))),(.e 20 (.I (j:Int)))] hR hM (by kernel_rfl) (by kernel_rfl) ?_
    clear hR hM; intro a83 w84 hR hb85 hM
    replace hB:=hB.tr hb85
    replace hown:=hown.below hb85
    replace hkn63:=SX.blk_below hkn63 hb85
    replace hkn77:=SX.blk_below hkn77 hb85
    refine SX.list_end 6 (by kernel_rfl) ?_
    refine hK55 _ _ ?_
    refine SX.qf0 [] [.nm (.I ((j+1:Nat):Int)),.ld []] [1,3,4,18,19,20] [(.e 20 (.I ((j+1:Nat):Int)))] [] [] [] [([],(.I (IntKind.i64.wrap ((j:Int)+1))),(.I ((j+1:Nat):Int)))] hR hM hB mix trivial ⟨fun hg=>SX.wrap_ok (by omega),trivial⟩ (fun w' hb' hM'=>trivial) (fun w' hb' hM'=>trivial) fun a86 w87 hR hb88 hB hM=>?_
    replace hown:=hown.below hb88
    replace hkn63:=SX.blk_below hkn63 hb88
    replace hkn77:=SX.blk_below hkn77 hb88
    exact ⟨b.ops.length-(j+1),by omega,j+1,v78,rfl,by omega,hR.keep (ts:=[1,3,4,18,19,20]) (by kernel_rfl),hB,SX.cells_sub hM [23,24,25,26,27,28,29,30,31,32] (by kernel_rfl),by rw [dsts_yes hy h70,← List.append_assoc]; exact hown⟩
   ·skip
    refine wp_skip ?_
    refine hK55 _ _ ?_
    refine SX.qf0 [] [.nm (.I ((j+1:Nat):Int)),.ld []] [1,3,4,18,19,20] [(.e 20 (.I ((j+1:Nat):Int)))] [] [] [] [([],(.I (IntKind.i64.wrap ((j:Int)+1))),(.I ((j+1:Nat):Int)))] hR hM hB mix trivial ⟨fun hg=>SX.wrap_ok (by omega),trivial⟩ (fun w' hb' hM'=>trivial) (fun w' hb' hM'=>trivial) fun a89 w90 hR hb91 hB hM=>?_
    replace hown:=hown.below hb91
    replace hkn63:=SX.blk_below hkn63 hb91
    exact ⟨b.ops.length-(j+1),by omega,j+1,v,rfl,by omega,hR.keep (ts:=[1,3,4,18,19,20]) (by kernel_rfl),hB,SX.cells_sub hM [22,23,24,25,26,27,28,29,30,31] (by kernel_rfl),by rw [dsts_no hy h70]; exact hown⟩
  ·skip
   refine wp_exit ?_
   refine hK43 _ _ ?_
   refine SX.qs [.ld [],.ld []] [1,2,3,4,18,19,20] [(.e 2 v)] hR hM hB mix fun a92 w93 hR hb94 hB hM=>?_
   replace hown:=hown.below hb94
   refine wp_ret ?_
   try simp only [Exit.then,Exit.inBlock,Nat.reduceEqDiff,↓reduceIte]
   refine SX.ret_ 2 v Try.results86 hR (by kernel_rfl) ?_
   clear hR hM mix hK1 hzn5 hb4 hkn5 hln5 hn5 hb8 hb11 hK12 hb15 hm18 hK19 hb22 hK43 hb46 hm49 hb52 hK53 hb94
   exact ⟨_,rfl,hB,by rw [values_take (le_of_dec h54)] at hown; exact hown.at_,fun g hg=>by have:=hown.ge g hg; omega⟩
end Go.Proofs.Ytlkcidmmpeebeaa
