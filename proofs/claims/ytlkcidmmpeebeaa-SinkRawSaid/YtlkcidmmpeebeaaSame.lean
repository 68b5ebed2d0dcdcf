/- Proved: same.Code -/
import Derived.Test.YtlkcidmmpeebeaaTail1
import Derived.Test.YtlkcidmmpeebeaaCtx
import Derived.Test.YtlkcidmmpeebeaaTl
set_option linter.unusedVariables false
set_option linter.unusedSimpArgs false
namespace Go.Proofs.Ytlkcidmmpeebeaa
open Go.RowKit
set_option maxRecDepth 100000
set_option maxHeartbeats 1000000 in
theorem same_any (c:CodeD) (v1 v2 v3:Value) (w:World) (h:CodeAt w v1 v2 v3 c) (u1 u2 u3:Value) (hq:CodeAt w u1 u2 u3 c):Calls Try.prog 16 #[(.agg #[.I c.params,v1,v2,v3]),(.agg #[.I c.params,u1,u2,u3])] w fun e w'=>e=.returned (.bool (true))∧Below w.heap.size w w':=by
 have h0:=h
 obtain ⟨A1,k1,rfl,s1⟩:=h.2.1.shape
 obtain ⟨A2,k2,rfl,s2⟩:=h.2.2.1.shape
 obtain ⟨A3,k3,rfl,s3⟩:=h.2.2.2.shape
 unfold Shape at s1 s2 s3
 have h0q:=hq
 obtain ⟨A1q,k1q,rfl,s1q⟩:=hq.2.1.shape
 obtain ⟨A2q,k2q,rfl,s2q⟩:=hq.2.2.1.shape
 obtain ⟨A3q,k3q,rfl,s3q⟩:=hq.2.2.2.shape
 unfold Shape at s1q s2q s3q
 have mix:=mixed
 have hB:Below w.heap.size w w:=Below.refl _ _
 have hM:SX.Cells w []:=SX.cells_nil
 refine SX.enter [(.agg #[.I c.params,.slice A1 c.blocks.length k1,.slice A2 c.contexts.length k2,.slice A3 c.objects.length k3]),(.agg #[.I c.params,.slice A1q c.blocks.length k1q,.slice A2q c.contexts.length k2q,.slice A3q c.objects.length k3q])] 115 Try.func16 rfl rfl (by kernel_rfl) ?_
 intro a hR
 refine wp_seq_k fun K1 hK1=>?_
 refine SX.region_l ?_
 obtain ⟨n5,hn5⟩:∃ n,w.heap.size=n:=⟨_,rfl⟩
 have hzn5:w.heap.size≤n5:=by have:=hB.size; omega
 refine SX.list_box 0 n5 [(.I c.params),(.slice A1 c.blocks.length k1),(.slice A2 c.contexts.length k2),(.slice A3 c.objects.length k3)] 26 ((.e 2 (.P n5))::[(.e 0 (.agg #[.I c.params,.slice A1 c.blocks.length k1,.slice A2 c.contexts.length k2,.slice A3 c.objects.length k3])),(.e 1 (.agg #[.I c.params,.slice A1q c.blocks.length k1q,.slice A2q c.contexts.length k2q,.slice A3q c.objects.length k3q]))]) [(⟨n5,0,none⟩,(.I c.params)),(⟨n5,1,none⟩,(.slice A1 c.blocks.length k1)),(⟨n5,2,none⟩,(.slice A2 c.contexts.length k2)),(⟨n5,3,none⟩,(.slice A3 c.objects.length k3))] hR hM hn5 (by kernel_rfl) (by kernel_rfl) ?_
 clear hR hM; intro a2 w3 hR hb4 hM hkn5 hln5
 replace hB:=hB.tr hb4
 replace hR:SX.RSt 115 [] [(.e 1 (.agg #[.I c.params,.slice A1q c.blocks.length k1q,.slice A2q c.contexts.length k2q,.slice A3q c.objects.length k3q])),(.e 2 (.P n5))] a2:=hR.keep (ts:=[1,2]) (by kernel_rfl)
 obtain ⟨n9,hn9⟩:∃ n,w3.heap.size=n:=⟨_,rfl⟩
 have hzn9:w.heap.size≤n9:=by have:=hB.size; omega
 have qn5n9:n5<n9:=by have:=(Array.getElem?_eq_some_iff.1 hkn5).1; omega
 refine SX.list_box 1 n9 [(.I c.params),(.slice A1q c.blocks.length k1q),(.slice A2q c.contexts.length k2q),(.slice A3q c.objects.length k3q)] 26 ((.e 3 (.P n9))::[(.e 1 (.agg #[.I c.params,.slice A1q c.blocks.length k1q,.slice A2q c.contexts.length k2q,.slice A3q c.objects.length k3q])),(.e 2 (.P n5))]) [(⟨n9,0,none⟩,(.I c.params)),(⟨n9,1,none⟩,(.slice A1q c.blocks.length k1q)),(⟨n9,2,none⟩,(.slice A2q c.contexts.length k2q)),(⟨n9,3,none⟩,(.slice A3q c.objects.length k3q)),(⟨n5,0,none⟩,(.I c.params)),(⟨n5,1,none⟩,(.slice A1 c.blocks.length k1)),(⟨n5,2,none⟩,(.slice A2 c.contexts.length k2)),(⟨n5,3,none⟩,(.slice A3 c.objects.length k3))] hR hM hn9 (by kernel_rfl) (by kernel_rfl) ?_
 clear hR hM; intro a6 w7 hR hb8 hM hkn9 hln9
 replace hB:=hB.tr hb8
 replace hkn5:=SX.blk_below hkn5 hb8
 replace hR:SX.RSt 115 [] [(.e 2 (.P n5)),(.e 3 (.P n9))] a6:=hR.keep (ts:=[2,3]) (by kernel_rfl)
 refine SX.list_q0 (κ:=[]) 2 1 [.ld []] [2,3] [(.e 2 (.P n5)),(.e 3 (.P n9))] hR hM (by kernel_rfl) (by kernel_rfl) ?_
 clear hR hM; intro a10 w11 hR hb12 hM
 replace hB:=hB.tr hb12
 replace hkn5:=SX.blk_below hkn5 hb12
 replace hkn9:=SX.blk_below hkn9 hb12
 refine SX.list_end 3 (by kernel_rfl) ?_
 refine hK1 _ _ ?_
 refine wp_seq_k fun K13 hK13=>?_
 refine wp_seq_k fun K14 hK14=>?_
 refine SX.region_q [(5,(c.params != c.params)),(14,((c.params != c.params)||(((c.blocks.length:Nat):Int) != ((c.blocks.length:Nat):Int)))),(22,(((c.params != c.params)||(((c.blocks.length:Nat):Int) != ((c.blocks.length:Nat):Int)))||(!true)))] [.ld [],.ld [4],.ld [],.ld [0],.ld [],.ld [],.ld [],.ld [5],.ld [],.ld [],.ld [1],.ld [],.ld [],.pk,.ld [],.ld [],.ld [6],.ld [],.ld [2],.cl (.bool true),.ld [],.pk,.ld [],.ld [],.ld [7],.ld [],.ld [3],.cl (.bool true),.ld [],.pk] [2,3,37] [(.e 2 (.P n5)),(.e 3 (.P n9)),(.e 37 (.bool ((((c.params != c.params)||(((c.blocks.length:Nat):Int) != ((c.blocks.length:Nat):Int)))||(!true))||(!true))))] [] [] [([(14,false)],52,#[(.slice A2 c.contexts.length k2),(.slice A2q c.contexts.length k2q)],(.bool true)),([(22,false)],53,#[(.slice A3 c.objects.length k3),(.slice A3q c.objects.length k3q)],(.bool true))] [] hR hM mix (by kernel_rfl) (by kernel_rfl) (by kernel_rfl) (by kernel_rfl) trivial trivial (fun w' hb' hM'=>trivial) (fun w' hb' hM'=>⟨fun hg=>listC_any _ _ _ _ ((h0.2.2.1).below (hB.tr hb')) ((h0q.2.2.1).below (hB.tr hb')),fun hg=>listO_any _ _ _ _ ((h0.2.2.2).below (hB.tr hb')) ((h0q.2.2.2).below (hB.tr hb')),trivial⟩) ?_
 clear hR hM; intro a15 w16 hR hb17 hM
 replace hB:=hB.tr hb17
 replace hkn5:=SX.blk_below hkn5 hb17
 replace hkn9:=SX.blk_below hkn9 hb17
 refine hK14 _ _ ?_
 refine SX.cond_ ((((c.params != c.params)||(((c.blocks.length:Nat):Int) != ((c.blocks.length:Nat):Int)))||(!true))||(!true)) hR (by kernel_rfl) (fun h18=>?_) (fun h18=>?_)
 ·skip
  exact absurd h18 (by simp)
 ·skip
  refine wp_skip ?_
  refine hK13 _ _ ?_
  refine wp_seq_k fun K19 hK19=>?_
  refine wp_seq_k fun K20 hK20=>?_
  refine SX.region_q0 [.ld []] [2,3,5] [(.e 2 (.P n5)),(.e 3 (.P n9)),(.e 5 (.I 0))] hR hM mix (by kernel_rfl) (by kernel_rfl) (by kernel_rfl) (by kernel_rfl) ?_
  clear hR hM; intro a21 w22 hR hb23 hM
  replace hB:=hB.tr hb23
  replace hkn5:=SX.blk_below hkn5 hb23
  replace hkn9:=SX.blk_below hkn9 hb23
  refine hK20 _ _ ?_
  refine wp_block ?_
  refine wp_loop_ghost (fun m26 a' w'=>∃ k:Nat,m26=c.blocks.length-k∧k≤c.blocks.length∧SX.RSt 115 [] [(.e 2 (.P n5)),(.e 3 (.P n9)),(.e 5 (.I ((k:Nat):Int)))] a'∧Below w.heap.size w w'∧SX.Cells w' [(⟨n9,0,none⟩,(.I c.params)),(⟨n9,1,none⟩,(.slice A1q c.blocks.length k1q)),(⟨n9,2,none⟩,(.slice A2q c.contexts.length k2q)),(⟨n9,3,none⟩,(.slice A3q c.objects.length k3q)),(⟨n5,0,none⟩,(.I c.params)),(⟨n5,1,none⟩,(.slice A1 c.blocks.length k1)),(⟨n5,2,none⟩,(.slice A2 c.contexts.length k2)),(⟨n5,3,none⟩,(.slice A3 c.objects.length k3))]∧True∧w'.heap[n5]?=some (.cells [(.I c.params),(.slice A1 c.blocks.length k1),(.slice A2 c.contexts.length k2),(.slice A3 c.objects.length k3)].toArray 26 (0,0))∧w'.heap[n9]?=some (.cells [(.I c.params),(.slice A1q c.blocks.length k1q),(.slice A2q c.contexts.length k2q),(.slice A3q c.objects.length k3q)].toArray 26 (0,0))) (c.blocks.length-0) ⟨0,rfl,Nat.zero_le _,hR.keep (ts:=[2,3,5]) (by kernel_rfl),hB,hM,trivial,hkn5,hkn9⟩ ?_
  clear hR hM hB hkn5 hkn9
  rintro m26 a24 w25 ⟨k,hm26,hlek,hR,hB,hM,hIk,hkn5,hkn9⟩
  refine wp_seq_k fun K27 hK27=>?_
  refine wp_seq_k fun K28 hK28=>?_
  refine SX.region_q0 [.ld [],.ld [],.ld [5],.ld [],.ld []] [2,3,5,42] [(.e 2 (.P n5)),(.e 3 (.P n9)),(.e 5 (.I ((k:Nat):Int))),(.e 42 (.bool (decide (((k:Nat):Int)<((c.blocks.length:Nat):Int)))))] hR hM mix (by kernel_rfl) (by kernel_rfl) (by kernel_rfl) (by kernel_rfl) ?_
  clear hR hM; intro a29 w30 hR hb31 hM
  replace hB:=hB.tr hb31
  replace hkn5:=SX.blk_below hkn5 hb31
  replace hkn9:=SX.blk_below hkn9 hb31
  refine hK28 _ _ ?_
  refine SX.cond_ (decide (((k:Nat):Int)<((c.blocks.length:Nat):Int))) hR (by kernel_rfl) (fun h32=>?_) (fun h32=>?_)
  ·skip
   refine wp_skip ?_
   refine hK27 _ _ ?_
   refine wp_seq_k fun K33 hK33=>?_
   refine wp_block ?_
   refine wp_seq_k fun K34 hK34=>?_
   have hlt:k<c.blocks.length:=lt_of_dec h32
   obtain ⟨y,hy⟩:=get_of_lt hlt
   obtain ⟨bby,boy,hAy,B1y,j1y,B2y,j2y,B3y,j3y,B4y,j4y,hsy,hbly,cb0y,cb1y,cb2y,cb3y,cb4y,cb5y,cb6y,cb7y,cb8y,cb9y⟩:=h0.2.1.elem hy
   subst hAy; unfold Shape at hsy
   have hoy:bby<w.heap.size:=World.block_lt_of_cell? w _ cb0y
   replace hM:=(SX.cells_add (cell_below hB cb0y) (SX.cells_add (cell_below hB cb1y) (SX.cells_add (cell_below hB cb2y) (SX.cells_add (cell_below hB cb3y) (SX.cells_add (cell_below hB cb4y) (SX.cells_add (cell_below hB cb5y) (SX.cells_add (cell_below hB cb6y) (SX.cells_add (cell_below hB cb7y) (SX.cells_add (cell_below hB cb8y) (SX.cells_add (cell_below hB cb9y) hM))))))))))
   obtain ⟨bbz,boz,hAz,B1z,j1z,B2z,j2z,B3z,j3z,B4z,j4z,hsz,hblz,cb0z,cb1z,cb2z,cb3z,cb4z,cb5z,cb6z,cb7z,cb8z,cb9z⟩:=h0q.2.1.elem hy
   subst hAz; unfold Shape at hsz
   have hoz:bbz<w.heap.size:=World.block_lt_of_cell? w _ cb0z
   replace hM:=(SX.cells_add (cell_below hB cb0z) (SX.cells_add (cell_below hB cb1z) (SX.cells_add (cell_below hB cb2z) (SX.cells_add (cell_below hB cb3z) (SX.cells_add (cell_below hB cb4z) (SX.cells_add (cell_below hB cb5z) (SX.cells_add (cell_below hB cb6z) (SX.cells_add (cell_below hB cb7z) (SX.cells_add (cell_below hB cb8z) (SX.cells_add (cell_below hB cb9z) hM))))))))))
   refine SX.region_cut (fun a' w'=>∃ d6x10:Nat,∃ d6x11:Nat,SX.RSt 115 [] [(.e 2 (.P n5)),(.e 3 (.P n9)),(.e 5 (.I ((k:Nat):Int))),(.e 6 (.P d6x10)),(.e 7 (.P d6x11))] a'∧Below w.heap.size w w'∧SX.Cells w' [(⟨d6x11,0,none⟩,(.I y.params)),(⟨d6x11,1,none⟩,(.slice B1z y.ops.length j1z)),(⟨d6x11,2,none⟩,(.I y.term.kind)),(⟨d6x11,3,none⟩,(.I y.term.a)),(⟨d6x11,4,none⟩,(.I y.term.n)),(⟨d6x11,5,none⟩,(.slice B2z y.term.args.length j2z)),(⟨d6x11,6,none⟩,(.I y.term.b0)),(⟨d6x11,7,none⟩,(.slice B3z y.term.args0.length j3z)),(⟨d6x11,8,none⟩,(.I y.term.b1)),(⟨d6x11,9,none⟩,(.slice B4z y.term.args1.length j4z)),(⟨d6x10,0,none⟩,(.I y.params)),(⟨d6x10,1,none⟩,(.slice B1y y.ops.length j1y)),(⟨d6x10,2,none⟩,(.I y.term.kind)),(⟨d6x10,3,none⟩,(.I y.term.a)),(⟨d6x10,4,none⟩,(.I y.term.n)),(⟨d6x10,5,none⟩,(.slice B2y y.term.args.length j2y)),(⟨d6x10,6,none⟩,(.I y.term.b0)),(⟨d6x10,7,none⟩,(.slice B3y y.term.args0.length j3y)),(⟨d6x10,8,none⟩,(.I y.term.b1)),(⟨d6x10,9,none⟩,(.slice B4y y.term.args1.length j4y)),(⟨bbz,boz+k*10,none⟩,(.I y.params)),(⟨bbz,boz+k*10+1,none⟩,(.slice B1z y.ops.length j1z)),(⟨bbz,boz+k*10+2,none⟩,(.I y.term.kind)),(⟨bbz,boz+k*10+3,none⟩,(.I y.term.a)),(⟨bbz,boz+k*10+4,none⟩,(.I y.term.n)),(⟨bbz,boz+k*10+5,none⟩,(.slice B2z y.term.args.length j2z)),(⟨bbz,boz+k*10+6,none⟩,(.I y.term.b0)),(⟨bbz,boz+k*10+7,none⟩,(.slice B3z y.term.args0.length j3z)),(⟨bbz,boz+k*10+8,none⟩,(.I y.term.b1)),(⟨bbz,boz+k*10+9,none⟩,(.slice B4z y.term.args1.length j4z)),(⟨bby,boy+k*10,none⟩,(.I y.params)),(⟨bby,boy+k*10+1,none⟩,(.slice B1y y.ops.length j1y)),(⟨bby,boy+k*10+2,none⟩,(.I y.term.kind)),(⟨bby,boy+k*10+3,none⟩,(.I y.term.a)),(⟨bby,boy+k*10+4,none⟩,(.I y.term.n)),(⟨bby,boy+k*10+5,none⟩,(.slice B2y y.term.args.length j2y)),(⟨bby,boy+k*10+6,none⟩,(.I y.term.b0)),(⟨bby,boy+k*10+7,none⟩,(.slice B3y y.term.args0.length j3y)),(⟨bby,boy+k*10+8,none⟩,(.I y.term.b1)),(⟨bby,boy+k*10+9,none⟩,(.slice B4y y.term.args1.length j4y)),(⟨n9,0,none⟩,(.I c.params)),(⟨n9,1,none⟩,(.slice (some ⟨bbz,boz,none⟩) c.blocks.length k1q)),(⟨n9,2,none⟩,(.slice A2q c.contexts.length k2q)),(⟨n9,3,none⟩,(.slice A3q c.objects.length k3q)),(⟨n5,0,none⟩,(.I c.params)),(⟨n5,1,none⟩,(.slice (some ⟨bby,boy,none⟩) c.blocks.length k1)),(⟨n5,2,none⟩,(.slice A2 c.contexts.length k2)),(⟨n5,3,none⟩,(.slice A3 c.objects.length k3))]∧w.heap.size≤d6x10∧n5<d6x10∧n9<d6x10∧w.heap.size≤d6x11∧n5<d6x11∧n9<d6x11∧w'.heap[d6x10]?=some (.cells [(.I y.params),(.slice B1y y.ops.length j1y),(.I y.term.kind),(.I y.term.a),(.I y.term.n),(.slice B2y y.term.args.length j2y),(.I y.term.b0),(.slice B3y y.term.args0.length j3y),(.I y.term.b1),(.slice B4y y.term.args1.length j4y)].toArray 62 (0,0))∧w'.heap[d6x11]?=some (.cells [(.I y.params),(.slice B1z y.ops.length j1z),(.I y.term.kind),(.I y.term.a),(.I y.term.n),(.slice B2z y.term.args.length j2z),(.I y.term.b0),(.slice B3z y.term.args0.length j3z),(.I y.term.b1),(.slice B4z y.term.args1.length j4z)].toArray 62 (0,0))∧w'.heap[n5]?=some (.cells [(.I c.params),(.slice (some ⟨bby,boy,none⟩) c.blocks.length k1),(.slice A2 c.contexts.length k2),(.slice A3 c.objects.length k3)].toArray 26 (0,0))∧w'.heap[n9]?=some (.cells [(.I c.params),(.slice (some ⟨bbz,boz,none⟩) c.blocks.length k1q),(.slice A2q c.contexts.length k2q),(.slice A3q c.objects.length k3q)].toArray 26 (0,0))) ?_ ?_
   ·skip
    refine SX.any_start (M:=[(⟨bbz,boz+k*10,none⟩,(.I y.params)),(⟨bbz,boz+k*10+1,none⟩,(.slice B1z y.ops.length j1z)),(⟨bbz,boz+k*10+2,none⟩,(.I y.term.kind)),(⟨bbz,boz+k*10+3,none⟩,(.I y.term.a)),(⟨bbz,boz+k*10+4,none⟩,(.I y.term.n)),(⟨bbz,boz+k*10+5,none⟩,(.slice B2z y.term.args.length j2z)),(⟨bbz,boz+k*10+6,none⟩,(.I y.term.b0)),(⟨bbz,boz+k*10+7,none⟩,(.slice B3z y.term.args0.length j3z)),(⟨bbz,boz+k*10+8,none⟩,(.I y.term.b1)),(⟨bbz,boz+k*10+9,none⟩,(.slice B4z y.term.args1.length j4z)),(⟨bby,boy+k*10,none⟩,(.I y.params)),(⟨bby,boy+k*10+1,none⟩,(.slice B1y y.ops.length j1y)),(⟨bby,boy+k*10+2,none⟩,(.I y.term.kind)),(⟨bby,boy+k*10+3,none⟩,(.I y.term.a)),(⟨bby,boy+k*10+4,none⟩,(.I y.term.n)),(⟨bby,boy+k*10+5,none⟩,(.slice B2y y.term.args.length j2y)),(⟨bby,boy+k*10+6,none⟩,(.I y.term.b0)),(⟨bby,boy+k*10+7,none⟩,(.slice B3y y.term.args0.length j3y)),(⟨bby,boy+k*10+8,none⟩,(.I y.term.b1)),(⟨bby,boy+k*10+9,none⟩,(.slice B4y y.term.args1.length j4y)),(⟨n9,0,none⟩,(.I c.params)),(⟨n9,1,none⟩,(.slice (some ⟨bbz,boz,none⟩) c.blocks.length k1q)),(⟨n9,2,none⟩,(.slice A2q c.contexts.length k2q)),(⟨n9,3,none⟩,(.slice A3q c.objects.length k3q)),(⟨n5,0,none⟩,(.I c.params)),(⟨n5,1,none⟩,(.slice (some ⟨bby,boy,none⟩) c.blocks.length k1)),(⟨n5,2,none⟩,(.slice A2 c.contexts.length k2)),(⟨n5,3,none⟩,(.slice A3 c.objects.length k3))]) 13 14 (by kernel_rfl) mix (by kernel_rfl) ?_
    intro w36 hb37 hszw36; replace hM:=hM.below hb37
    replace hB:=hB.tr hb37
    replace hkn5:=SX.blk_below hkn5 hb37
    replace hkn9:=SX.blk_below hkn9 hb37
    replace hR:SX.RSt 115 [] [(.e 2 (.P n5)),(.e 3 (.P n9)),(.e 5 (.I ((k:Nat):Int))),(.e 42 (.bool (decide (((k:Nat):Int)<((c.blocks.length:Nat):Int)))))] _:=hR.keep (ts:=[2,3,5,42]) (by kernel_rfl)
    refine SX.any_quiet (κ:=[]) 4 [0,2,5,7,1,6,3,8,4,9] [.ld [],.ld [],.ld [],.ld [],.ld [25],.ld [21],.ix ⟨bby,boy+k*10,none⟩,.ix ⟨bbz,boz+k*10,none⟩,.ld [10,11,12,13,14,15,16,17,18,19],.ld [0,1,2,3,4,5,6,7,8,9]] [(.e 54 (.agg #[.I y.params,.slice B1z y.ops.length j1z,.I y.term.kind,.I y.term.a,.I y.term.n,.slice B2z y.term.args.length j2z,.I y.term.b0,.slice B3z y.term.args0.length j3z,.I y.term.b1,.slice B4z y.term.args1.length j4z])),(.e 49 (.agg #[.I y.params,.slice B1y y.ops.length j1y,.I y.term.kind,.I y.term.a,.I y.term.n,.slice B2y y.term.args.length j2y,.I y.term.b0,.slice B3y y.term.args0.length j3y,.I y.term.b1,.slice B4y y.term.args1.length j4y])),(.e 53 (.pointer (some ⟨bbz,boz+k*10,none⟩))),(.e 48 (.pointer (some ⟨bby,boy+k*10,none⟩))),(.e 51 (.slice (some ⟨bbz,boz,none⟩) c.blocks.length k1q)),(.e 46 (.slice (some ⟨bby,boy,none⟩) c.blocks.length k1)),(.e 52 (.I ((k:Nat):Int))),(.e 50 (.pointer (some ⟨n9,1,none⟩))),(.e 47 (.I ((k:Nat):Int))),(.e 45 (.pointer (some ⟨n5,1,none⟩))),(.e 2 (.P n5)),(.e 3 (.P n9)),(.e 5 (.I ((k:Nat):Int))),(.e 42 (.bool (decide (((k:Nat):Int)<((c.blocks.length:Nat):Int)))))] [([],⟨bby,boy,none⟩,c.blocks.length,((k:Nat):Int),10,⟨bby,boy+k*10,none⟩),([],⟨bbz,boz,none⟩,c.blocks.length,((k:Nat):Int),10,⟨bbz,boz+k*10,none⟩)] [] [] 14 (by kernel_rfl) hR hM (by kernel_rfl) (by kernel_rfl) (by kernel_rfl) (by kernel_rfl) (by kernel_rfl) ⟨fun hg=>SX.ix_ok (by omega),fun hg=>SX.ix_ok (by omega),trivial⟩ trivial (fun w' hM'=>trivial) ?_
    clear hR; intro a38 hR
    refine SX.any_loud 3 [10,11] 4 (by kernel_rfl) (by kernel_rfl) (by kernel_rfl) (by kernel_rfl) (SX.next1_cons ?_ (SX.next1_cons ?_ SX.next1_nil))
    ·skip
     intro K39 hK39
     obtain ⟨d6x10,hd6x10⟩:∃ n,w36.heap.size=n:=⟨_,rfl⟩
     have hzd6x10:w.heap.size≤d6x10:=by have:=hB.size; omega
     have qn5d6x10:n5<d6x10:=by have:=(Array.getElem?_eq_some_iff.1 hkn5).1; omega
     have qn9d6x10:n9<d6x10:=by have:=(Array.getElem?_eq_some_iff.1 hkn9).1; omega
     refine SX.list_alloc 0 d6x10 [(.I 0),(.slice none 0 0),(.I 0),(.I 0),(.I 0),(.slice none 0 0),(.I 0),(.slice none 0 0),(.I 0),(.slice none 0 0)] 62 [(.e 6 (.P d6x10)),(.e 54 (.agg #[.I y.params,.slice B1z y.ops.length j1z,.I y.term.kind,.I y.term.a,.I y.term.n,.slice B2z y.term.args.length j2z,.I y.term.b0,.slice B3z y.term.args0.length j3z,.I y.term.b1,.slice B4z y.term.args1.length j4z])),(.e 49 (.agg #[.I y.params,.slice B1y y.ops.length j1y,.I y.term.kind,.I y.term.a,.I y.term.n,.slice B2y y.term.args.length j2y,.I y.term.b0,.slice B3y y.term.args0.length j3y,.I y.term.b1,.slice B4y y.term.args1.length j4y])),(.e 53 (.pointer (some ⟨bbz,boz+k*10,none⟩))),(.e 48 (.pointer (some ⟨bby,boy+k*10,none⟩))),(.e 51 (.slice (some ⟨bbz,boz,none⟩) c.blocks.length k1q)),(.e 46 (.slice (some ⟨bby,boy,none⟩) c.blocks.length k1)),(.e 52 (.I ((k:Nat):Int))),(.e 50 (.pointer (some ⟨n9,1,none⟩))),(.e 47 (.I ((k:Nat):Int))),(.e 45 (.pointer (some ⟨n5,1,none⟩))),(.e 2 (.P n5)),(.e 3 (.P n9)),(.e 5 (.I ((k:Nat):Int))),(.e 42 (.bool (decide (((k:Nat):Int)<((c.blocks.length:Nat):Int)))))] hR hM hd6x10 (by kernel_rfl) ?_
     clear hR hM; intro a40 w41 hR hb42 hM hkd6x10 hld6x10 hned6x10; clear hd6x10
     replace hB:=hB.tr hb42
     replace hkn5:=SX.blk_below hkn5 hb42
     replace hkn9:=SX.blk_below hkn9 hb42
     refine SX.list_end 1 (by kernel_rfl) ?_
     refine hK39 _ _ (fun _=>hM) ?_
     refine SX.any_loud 2 [11] 3 (by kernel_rfl) (by kernel_rfl) (by kernel_rfl) (by kernel_rfl) (SX.next1_cons ?_ SX.next1_nil)
     ·skip
      intro K43 hK43
      obtain ⟨d6x11,hd6x11⟩:∃ n,w41.heap.size=n:=⟨_,rfl⟩
      have hzd6x11:w.heap.size≤d6x11:=by have:=hB.size; omega
      have qn5d6x11:n5<d6x11:=by have:=(Array.getElem?_eq_some_iff.1 hkn5).1; omega
      have qn9d6x11:n9<d6x11:=by have:=(Array.getElem?_eq_some_iff.1 hkn9).1; omega
      have qd6x10d6x11:d6x10<d6x11:=by have:=(Array.getElem?_eq_some_iff.1 hkd6x10).1; omega
      refine SX.list_alloc 0 d6x11 [(.I 0),(.slice none 0 0),(.I 0),(.I 0),(.I 0),(.slice none 0 0),(.I 0),(.slice none 0 0),(.I 0),(.slice none 0 0)] 62 [(.e 7 (.P d6x11)),(.e 6 (.P d6x10)),(.e 54 (.agg #[.I y.params,.slice B1z y.ops.length j1z,.I y.term.kind,.I y.term.a,.I y.term.n,.slice B2z y.term.args.length j2z,.I y.term.b0,.slice B3z y.term.args0.length j3z,.I y.term.b1,.slice B4z y.term.args1.length j4z])),(.e 49 (.agg #[.I y.params,.slice B1y y.ops.length j1y,.I y.term.kind,.I y.term.a,.I y.term.n,.slice B2y y.term.args.length j2y,.I y.term.b0,.slice B3y y.term.args0.length j3y,.I y.term.b1,.slice B4y y.term.args1.length j4y])),(.e 53 (.pointer (some ⟨bbz,boz+k*10,none⟩))),(.e 48 (.pointer (some ⟨bby,boy+k*10,none⟩))),(.e 51 (.slice (some ⟨bbz,boz,none⟩) c.blocks.length k1q)),(.e 46 (.slice (some ⟨bby,boy,none⟩) c.blocks.length k1)),(.e 52 (.I ((k:Nat):Int))),(.e 50 (.pointer (some ⟨n9,1,none⟩))),(.e 47 (.I ((k:Nat):Int))),(.e 45 (.pointer (some ⟨n5,1,none⟩))),(.e 2 (.P n5)),(.e 3 (.P n9)),(.e 5 (.I ((k:Nat):Int))),(.e 42 (.bool (decide (((k:Nat):Int)<((c.blocks.length:Nat):Int)))))] hR hM hd6x11 (by kernel_rfl) ?_
      clear hR hM; intro a44 w45 hR hb46 hM hkd6x11 hld6x11 hned6x11; clear hd6x11
      replace hB:=hB.tr hb46
      replace hkn5:=SX.blk_below hkn5 hb46
      replace hkn9:=SX.blk_below hkn9 hb46
      replace hkd6x10:=SX.blk_below hkd6x10 hb46
      refine SX.list_end 1 (by kernel_rfl) ?_
      refine hK43 _ _ (fun _=>hM) ?_
      refine SX.any_loud 1 [12] 2 (by kernel_rfl) (by kernel_rfl) (by kernel_rfl) (by kernel_rfl) (SX.next1_cons ?_ SX.next1_nil)
      ·skip
       intro K47 hK47
       refine SX.list_store 0 [(0,(.I y.params)),(1,(.slice B1y y.ops.length j1y)),(2,(.I y.term.kind)),(3,(.I y.term.a)),(4,(.I y.term.n)),(5,(.slice B2y y.term.args.length j2y)),(6,(.I y.term.b0)),(7,(.slice B3y y.term.args0.length j3y)),(8,(.I y.term.b1)),(9,(.slice B4y y.term.args1.length j4y))] [(.I y.params),(.slice B1y y.ops.length j1y),(.I y.term.kind),(.I y.term.a),(.I y.term.n),(.slice B2y y.term.args.length j2y),(.I y.term.b0),(.slice B3y y.term.args0.length j3y),(.I y.term.b1),(.slice B4y y.term.args1.length j4y)] [(⟨bbz,boz+k*10,none⟩,(.I y.params)),(⟨bbz,boz+k*10+1,none⟩,(.slice B1z y.ops.length j1z)),(⟨bbz,boz+k*10+2,none⟩,(.I y.term.kind)),(⟨bbz,boz+k*10+3,none⟩,(.I y.term.a)),(⟨bbz,boz+k*10+4,none⟩,(.I y.term.n)),(⟨bbz,boz+k*10+5,none⟩,(.slice B2z y.term.args.length j2z)),(⟨bbz,boz+k*10+6,none⟩,(.I y.term.b0)),(⟨bbz,boz+k*10+7,none⟩,(.slice B3z y.term.args0.length j3z)),(⟨bbz,boz+k*10+8,none⟩,(.I y.term.b1)),(⟨bbz,boz+k*10+9,none⟩,(.slice B4z y.term.args1.length j4z)),(⟨bby,boy+k*10,none⟩,(.I y.params)),(⟨bby,boy+k*10+1,none⟩,(.slice B1y y.ops.length j1y)),(⟨bby,boy+k*10+2,none⟩,(.I y.term.kind)),(⟨bby,boy+k*10+3,none⟩,(.I y.term.a)),(⟨bby,boy+k*10+4,none⟩,(.I y.term.n)),(⟨bby,boy+k*10+5,none⟩,(.slice B2y y.term.args.length j2y)),(⟨bby,boy+k*10+6,none⟩,(.I y.term.b0)),(⟨bby,boy+k*10+7,none⟩,(.slice B3y y.term.args0.length j3y)),(⟨bby,boy+k*10+8,none⟩,(.I y.term.b1)),(⟨bby,boy+k*10+9,none⟩,(.slice B4y y.term.args1.length j4y)),(⟨n9,0,none⟩,(.I c.params)),(⟨n9,1,none⟩,(.slice (some ⟨bbz,boz,none⟩) c.blocks.length k1q)),(⟨n9,2,none⟩,(.slice A2q c.contexts.length k2q)),(⟨n9,3,none⟩,(.slice A3q c.objects.length k3q)),(⟨n5,0,none⟩,(.I c.params)),(⟨n5,1,none⟩,(.slice (some ⟨bby,boy,none⟩) c.blocks.length k1)),(⟨n5,2,none⟩,(.slice A2 c.contexts.length k2)),(⟨n5,3,none⟩,(.slice A3 c.objects.length k3))] [(⟨d6x10,0,none⟩,(.I y.params)),(⟨d6x10,1,none⟩,(.slice B1y y.ops.length j1y)),(⟨d6x10,2,none⟩,(.I y.term.kind)),(⟨d6x10,3,none⟩,(.I y.term.a)),(⟨d6x10,4,none⟩,(.I y.term.n)),(⟨d6x10,5,none⟩,(.slice B2y y.term.args.length j2y)),(⟨d6x10,6,none⟩,(.I y.term.b0)),(⟨d6x10,7,none⟩,(.slice B3y y.term.args0.length j3y)),(⟨d6x10,8,none⟩,(.I y.term.b1)),(⟨d6x10,9,none⟩,(.slice B4y y.term.args1.length j4y)),(⟨bbz,boz+k*10,none⟩,(.I y.params)),(⟨bbz,boz+k*10+1,none⟩,(.slice B1z y.ops.length j1z)),(⟨bbz,boz+k*10+2,none⟩,(.I y.term.kind)),(⟨bbz,boz+k*10+3,none⟩,(.I y.term.a)),(⟨bbz,boz+k*10+4,none⟩,(.I y.term.n)),(⟨bbz,boz+k*10+5,none⟩,(.slice B2z y.term.args.length j2z)),(⟨bbz,boz+k*10+6,none⟩,(.I y.term.b0)),(⟨bbz,boz+k*10+7,none⟩,(.slice B3z y.term.args0.length j3z)),(⟨bbz,boz+k*10+8,none⟩,(.I y.term.b1)),(⟨bbz,boz+k*10+9,none⟩,(.slice B4z y.term.args1.length j4z)),(⟨bby,boy+k*10,none⟩,(.I y.params)),(⟨bby,boy+k*10+1,none⟩,(.slice B1y y.ops.length j1y)),(⟨bby,boy+k*10+2,none⟩,(.I y.term.kind)),(⟨bby,boy+k*10+3,none⟩,(.I y.term.a)),(⟨bby,boy+k*10+4,none⟩,(.I y.term.n)),(⟨bby,boy+k*10+5,none⟩,(.slice B2y y.term.args.length j2y)),(⟨bby,boy+k*10+6,none⟩,(.I y.term.b0)),(⟨bby,boy+k*10+7,none⟩,(.slice B3y y.term.args0.length j3y)),(⟨bby,boy+k*10+8,none⟩,(.I y.term.b1)),(⟨bby,boy+k*10+9,none⟩,(.slice B4y y.term.args1.length j4y)),(⟨n9,0,none⟩,(.I c.params)),(⟨n9,1,none⟩,(.slice (some ⟨bbz,boz,none⟩) c.blocks.length k1q)),(⟨n9,2,none⟩,(.slice A2q c.contexts.length k2q)),(⟨n9,3,none⟩,(.slice A3q c.objects.length k3q)),(⟨n5,0,none⟩,(.I c.params)),(⟨n5,1,none⟩,(.slice (some ⟨bby,boy,none⟩) c.blocks.length k1)),(⟨n5,2,none⟩,(.slice A2 c.contexts.length k2)),(⟨n5,3,none⟩,(.slice A3 c.objects.length k3))] hR (SX.cells_sub hM [0,1,2,3,4,5,6,7,8,9,10,11,12,13,14,15,16,17,18,19,20,21,22,23,24,25,26,27] (by kernel_rfl)) hned6x10 hkd6x10 (by kernel_rfl) (by kernel_rfl) (by kernel_rfl) ?_
       clear hR hM hkd6x10; intro a48 w49 hR hb50 hM hkd6x10
       replace hB:=hB.trans (hb50.below (by omega))
       replace hkn5:=(hb50.block _ (by omega)).trans hkn5
       replace hkn9:=(hb50.block _ (by omega)).trans hkn9
       replace hkd6x11:=(hb50.block _ (by omega)).trans hkd6x11
       have hX:=hM
       replace hM:SX.Cells _ [(⟨bbz,boz+k*10,none⟩,(.I y.params)),(⟨bbz,boz+k*10+1,none⟩,(.slice B1z y.ops.length j1z)),(⟨bbz,boz+k*10+2,none⟩,(.I y.term.kind)),(⟨bbz,boz+k*10+3,none⟩,(.I y.term.a)),(⟨bbz,boz+k*10+4,none⟩,(.I y.term.n)),(⟨bbz,boz+k*10+5,none⟩,(.slice B2z y.term.args.length j2z)),(⟨bbz,boz+k*10+6,none⟩,(.I y.term.b0)),(⟨bbz,boz+k*10+7,none⟩,(.slice B3z y.term.args0.length j3z)),(⟨bbz,boz+k*10+8,none⟩,(.I y.term.b1)),(⟨bbz,boz+k*10+9,none⟩,(.slice B4z y.term.args1.length j4z)),(⟨bby,boy+k*10,none⟩,(.I y.params)),(⟨bby,boy+k*10+1,none⟩,(.slice B1y y.ops.length j1y)),(⟨bby,boy+k*10+2,none⟩,(.I y.term.kind)),(⟨bby,boy+k*10+3,none⟩,(.I y.term.a)),(⟨bby,boy+k*10+4,none⟩,(.I y.term.n)),(⟨bby,boy+k*10+5,none⟩,(.slice B2y y.term.args.length j2y)),(⟨bby,boy+k*10+6,none⟩,(.I y.term.b0)),(⟨bby,boy+k*10+7,none⟩,(.slice B3y y.term.args0.length j3y)),(⟨bby,boy+k*10+8,none⟩,(.I y.term.b1)),(⟨bby,boy+k*10+9,none⟩,(.slice B4y y.term.args1.length j4y)),(⟨n9,0,none⟩,(.I c.params)),(⟨n9,1,none⟩,(.slice (some ⟨bbz,boz,none⟩) c.blocks.length k1q)),(⟨n9,2,none⟩,(.slice A2q c.contexts.length k2q)),(⟨n9,3,none⟩,(.slice A3q c.objects.length k3q)),(⟨n5,0,none⟩,(.I c.params)),(⟨n5,1,none⟩,(.slice (some ⟨bby,boy,none⟩) c.blocks.length k1)),(⟨n5,2,none⟩,(.slice A2 c.contexts.length k2)),(⟨n5,3,none⟩,(.slice A3 c.objects.length k3))]:=SX.cells_sub hM [10,11,12,13,14,15,16,17,18,19,20,21,22,23,24,25,26,27,28,29,30,31,32,33,34,35,36,37] (by kernel_rfl)
       refine SX.list_end 1 (by kernel_rfl) ?_
       refine hK47 _ _ (fun _=>hM) ?_
       refine SX.any_last 13 (by kernel_rfl) (by kernel_rfl) (by kernel_rfl) ?_
       clear hM; have hM:=hX; clear hX
       have hqd6x10e55:d6x10≠d6x11:=by omega
       have hqbbze55:bbz≠d6x11:=by omega
       have hqbbye55:bby≠d6x11:=by omega
       have hqn9e55:n9≠d6x11:=by omega
       have hqn5e55:n5≠d6x11:=by omega
       refine SX.list_store 0 [(0,(.I y.params)),(1,(.slice B1z y.ops.length j1z)),(2,(.I y.term.kind)),(3,(.I y.term.a)),(4,(.I y.term.n)),(5,(.slice B2z y.term.args.length j2z)),(6,(.I y.term.b0)),(7,(.slice B3z y.term.args0.length j3z)),(8,(.I y.term.b1)),(9,(.slice B4z y.term.args1.length j4z))] [(.I y.params),(.slice B1z y.ops.length j1z),(.I y.term.kind),(.I y.term.a),(.I y.term.n),(.slice B2z y.term.args.length j2z),(.I y.term.b0),(.slice B3z y.term.args0.length j3z),(.I y.term.b1),(.slice B4z y.term.args1.length j4z)] [(⟨d6x10,0,none⟩,(.I y.params)),(⟨d6x10,1,none⟩,(.slice B1y y.ops.length j1y)),(⟨d6x10,2,none⟩,(.I y.term.kind)),(⟨d6x10,3,none⟩,(.I y.term.a)),(⟨d6x10,4,none⟩,(.I y.term.n)),(⟨d6x10,5,none⟩,(.slice B2y y.term.args.length j2y)),(⟨d6x10,6,none⟩,(.I y.term.b0)),(⟨d6x10,7,none⟩,(.slice B3y y.term.args0.length j3y)),(⟨d6x10,8,none⟩,(.I y.term.b1)),(⟨d6x10,9,none⟩,(.slice B4y y.term.args1.length j4y)),(⟨bbz,boz+k*10,none⟩,(.I y.params)),(⟨bbz,boz+k*10+1,none⟩,(.slice B1z y.ops.length j1z)),(⟨bbz,boz+k*10+2,none⟩,(.I y.term.kind)),(⟨bbz,boz+k*10+3,none⟩,(.I y.term.a)),(⟨bbz,boz+k*10+4,none⟩,(.I y.term.n)),(⟨bbz,boz+k*10+5,none⟩,(.slice B2z y.term.args.length j2z)),(⟨bbz,boz+k*10+6,none⟩,(.I y.term.b0)),(⟨bbz,boz+k*10+7,none⟩,(.slice B3z y.term.args0.length j3z)),(⟨bbz,boz+k*10+8,none⟩,(.I y.term.b1)),(⟨bbz,boz+k*10+9,none⟩,(.slice B4z y.term.args1.length j4z)),(⟨bby,boy+k*10,none⟩,(.I y.params)),(⟨bby,boy+k*10+1,none⟩,(.slice B1y y.ops.length j1y)),(⟨bby,boy+k*10+2,none⟩,(.I y.term.kind)),(⟨bby,boy+k*10+3,none⟩,(.I y.term.a)),(⟨bby,boy+k*10+4,none⟩,(.I y.term.n)),(⟨bby,boy+k*10+5,none⟩,(.slice B2y y.term.args.length j2y)),(⟨bby,boy+k*10+6,none⟩,(.I y.term.b0)),(⟨bby,boy+k*10+7,none⟩,(.slice B3y y.term.args0.length j3y)),(⟨bby,boy+k*10+8,none⟩,(.I y.term.b1)),(⟨bby,boy+k*10+9,none⟩,(.slice B4y y.term.args1.length j4y)),(⟨n9,0,none⟩,(.I c.params)),(⟨n9,1,none⟩,(.slice (some ⟨bbz,boz,none⟩) c.blocks.length k1q)),(⟨n9,2,none⟩,(.slice A2q c.contexts.length k2q)),(⟨n9,3,none⟩,(.slice A3q c.objects.length k3q)),(⟨n5,0,none⟩,(.I c.params)),(⟨n5,1,none⟩,(.slice (some ⟨bby,boy,none⟩) c.blocks.length k1)),(⟨n5,2,none⟩,(.slice A2 c.contexts.length k2)),(⟨n5,3,none⟩,(.slice A3 c.objects.length k3))] [(⟨d6x11,0,none⟩,(.I y.params)),(⟨d6x11,1,none⟩,(.slice B1z y.ops.length j1z)),(⟨d6x11,2,none⟩,(.I y.term.kind)),(⟨d6x11,3,none⟩,(.I y.term.a)),(⟨d6x11,4,none⟩,(.I y.term.n)),(⟨d6x11,5,none⟩,(.slice B2z y.term.args.length j2z)),(⟨d6x11,6,none⟩,(.I y.term.b0)),(⟨d6x11,7,none⟩,(.slice B3z y.term.args0.length j3z)),(⟨d6x11,8,none⟩,(.I y.term.b1)),(⟨d6x11,9,none⟩,(.slice B4z y.term.args1.length j4z)),(⟨d6x10,0,none⟩,(.I y.params)),(⟨d6x10,1,none⟩,(.slice B1y y.ops.length j1y)),(⟨d6x10,2,none⟩,(.I y.term.kind)),(⟨d6x10,3,none⟩,(.I y.term.a)),(⟨d6x10,4,none⟩,(.I y.term.n)),(⟨d6x10,5,none⟩,(.slice B2y y.term.args.length j2y)),(⟨d6x10,6,none⟩,(.I y.term.b0)),(⟨d6x10,7,none⟩,(.slice B3y y.term.args0.length j3y)),(⟨d6x10,8,none⟩,(.I y.term.b1)),(⟨d6x10,9,none⟩,(.slice B4y y.term.args1.length j4y)),(⟨bbz,boz+k*10,none⟩,(.I y.params)),(⟨bbz,boz+k*10+1,none⟩,(.slice B1z y.ops.length j1z)),(⟨bbz,boz+k*10+2,none⟩,(.I y.term.kind)),(⟨bbz,boz+k*10+3,none⟩,(.I y.term.a)),(⟨bbz,boz+k*10+4,none⟩,(.I y.term.n)),(⟨bbz,boz+k*10+5,none⟩,(.slice B2z y.term.args.length j2z)),(⟨bbz,boz+k*10+6,none⟩,(.I y.term.b0)),(⟨bbz,boz+k*10+7,none⟩,(.slice B3z y.term.args0.length j3z)),(⟨bbz,boz+k*10+8,none⟩,(.I y.term.b1)),(⟨bbz,boz+k*10+9,none⟩,(.slice B4z y.term.args1.length j4z)),(⟨bby,boy+k*10,none⟩,(.I y.params)),(⟨bby,boy+k*10+1,none⟩,(.slice B1y y.ops.length j1y)),(⟨bby,boy+k*10+2,none⟩,(.I y.term.kind)),(⟨bby,boy+k*10+3,none⟩,(.I y.term.a)),(⟨bby,boy+k*10+4,none⟩,(.I y.term.n)),(⟨bby,boy+k*10+5,none⟩,(.slice B2y y.term.args.length j2y)),(⟨bby,boy+k*10+6,none⟩,(.I y.term.b0)),(⟨bby,boy+k*10+7,none⟩,(.slice B3y y.term.args0.length j3y)),(⟨bby,boy+k*10+8,none⟩,(.I y.term.b1)),(⟨bby,boy+k*10+9,none⟩,(.slice B4y y.term.args1.length j4y)),(⟨n9,0,none⟩,(.I c.params)),(⟨n9,1,none⟩,(.slice (some ⟨bbz,boz,none⟩) c.blocks.length k1q)),(⟨n9,2,none⟩,(.slice A2q c.contexts.length k2q)),(⟨n9,3,none⟩,(.slice A3q c.objects.length k3q)),(⟨n5,0,none⟩,(.I c.params)),(⟨n5,1,none⟩,(.slice (some ⟨bby,boy,none⟩) c.blocks.length k1)),(⟨n5,2,none⟩,(.slice A2 c.contexts.length k2)),(⟨n5,3,none⟩,(.slice A3 c.objects.length k3))] hR (SX.cells_sub hM [0,1,2,3,4,5,6,7,8,9,10,11,12,13,14,15,16,17,18,19,20,21,22,23,24,25,26,27,28,29,30,31,32,33,34,35,36,37] (by kernel_rfl)) (SX.ne_cons hqd6x10e55 (SX.ne_cons hqd6x10e55 (SX.ne_cons hqd6x10e55 (SX.ne_cons hqd6x10e55 (SX.ne_cons hqd6x10e55 (SX.ne_cons hqd6x10e55 (SX.ne_cons hqd6x10e55 (SX.ne_cons hqd6x10e55 (SX.ne_cons hqd6x10e55 (SX.ne_cons hqd6x10e55 (SX.ne_cons hqbbze55 (SX.ne_cons hqbbze55 (SX.ne_cons hqbbze55 (SX.ne_cons hqbbze55 (SX.ne_cons hqbbze55 (SX.ne_cons hqbbze55 (SX.ne_cons hqbbze55 (SX.ne_cons hqbbze55 (SX.ne_cons hqbbze55 (SX.ne_cons hqbbze55 (SX.ne_cons hqbbye55 (SX.ne_cons hqbbye55 (SX.ne_cons hqbbye55 (SX.ne_cons hqbbye55 (SX.ne_cons hqbbye55 (SX.ne_cons hqbbye55 (SX.ne_cons hqbbye55 (SX.ne_cons hqbbye55 (SX.ne_cons hqbbye55 (SX.ne_cons hqbbye55 (SX.ne_cons hqn9e55 (SX.ne_cons hqn9e55 (SX.ne_cons hqn9e55 (SX.ne_cons hqn9e55 (SX.ne_cons hqn5e55 (SX.ne_cons hqn5e55 (SX.ne_cons hqn5e55 (SX.ne_cons hqn5e55 SX.ne_nil)))))))))))))))))))))))))))))))))))))) hkd6x11 (by kernel_rfl) (by kernel_rfl) (by kernel_rfl) ?_
       clear hR hM hkd6x11; intro a52 w53 hR hb54 hM hkd6x11
       replace hB:=hB.trans (hb54.below (by omega))
       replace hkn5:=(hb54.block _ (by omega)).trans hkn5
       replace hkn9:=(hb54.block _ (by omega)).trans hkn9
       replace hkd6x10:=(hb54.block _ (by omega)).trans hkd6x10
       refine SX.list_end 1 (by kernel_rfl) ?_
       exact ⟨d6x10,d6x11,hR.keep (ts:=[2,3,5,6,7]) (by kernel_rfl),hB,SX.cells_sub hM [0,1,2,3,4,5,6,7,8,9,10,11,12,13,14,15,16,17,18,19,20,21,22,23,24,25,26,27,28,29,30,31,32,33,34,35,36,37,38,39,40,41,42,43,44,45,46,47] (by kernel_rfl),hzd6x10,qn5d6x10,qn9d6x10,hzd6x11,qn5d6x11,qn9d6x11,hkd6x10,hkd6x11,hkn5,hkn9⟩
    ·skip
     intro K56 hK56
     obtain ⟨d6x11,hd6x11⟩:∃ n,w36.heap.size=n:=⟨_,rfl⟩
     have hzd6x11:w.heap.size≤d6x11:=by have:=hB.size; omega
     have qn5d6x11:n5<d6x11:=by have:=(Array.getElem?_eq_some_iff.1 hkn5).1; omega
     have qn9d6x11:n9<d6x11:=by have:=(Array.getElem?_eq_some_iff.1 hkn9).1; omega
     refine SX.list_alloc 0 d6x11 [(.I 0),(.slice none 0 0),(.I 0),(.I 0),(.I 0),(.slice none 0 0),(.I 0),(.slice none 0 0),(.I 0),(.slice none 0 0)] 62 [(.e 7 (.P d6x11)),(.e 54 (.agg #[.I y.params,.slice B1z y.ops.length j1z,.I y.term.kind,.I y.term.a,.I y.term.n,.slice B2z y.term.args.length j2z,.I y.term.b0,.slice B3z y.term.args0.length j3z,.I y.term.b1,.slice B4z y.term.args1.length j4z])),(.e 49 (.agg #[.I y.params,.slice B1y y.ops.length j1y,.I y.term.kind,.I y.term.a,.I y.term.n,.slice B2y y.term.args.length j2y,.I y.term.b0,.slice B3y y.term.args0.length j3y,.I y.term.b1,.slice B4y y.term.args1.length j4y])),(.e 53 (.pointer (some ⟨bbz,boz+k*10,none⟩))),(.e 48 (.pointer (some ⟨bby,boy+k*10,none⟩))),(.e 51 (.slice (some ⟨bbz,boz,none⟩) c.blocks.length k1q)),(.e 46 (.slice (some ⟨bby,boy,none⟩) c.blocks.length k1)),(.e 52 (.I ((k:Nat):Int))),(.e 50 (.pointer (some ⟨n9,1,none⟩))),(.e 47 (.I ((k:Nat):Int))),(.e 45 (.pointer (some ⟨n5,1,none⟩))),(.e 2 (.P n5)),(.e 3 (.P n9)),(.e 5 (.I ((k:Nat):Int))),(.e 42 (.bool (decide (((k:Nat):Int)<((c.blocks.length:Nat):Int)))))] hR hM hd6x11 (by kernel_rfl) ?_
     clear hR hM; intro a57 w58 hR hb59 hM hkd6x11 hld6x11 hned6x11; clear hd6x11
     replace hB:=hB.tr hb59
     replace hkn5:=SX.blk_below hkn5 hb59
     replace hkn9:=SX.blk_below hkn9 hb59
     refine SX.list_end 1 (by kernel_rfl) ?_
     refine hK56 _ _ (fun _=>hM) ?_
     refine SX.any_loud 2 [10] 3 (by kernel_rfl) (by kernel_rfl) (by kernel_rfl) (by kernel_rfl) (SX.next1_cons ?_ SX.next1_nil)
     ·skip
      intro K60 hK60
      obtain ⟨d6x10,hd6x10⟩:∃ n,w58.heap.size=n:=⟨_,rfl⟩
      have hzd6x10:w.heap.size≤d6x10:=by have:=hB.size; omega
      have qn5d6x10:n5<d6x10:=by have:=(Array.getElem?_eq_some_iff.1 hkn5).1; omega
      have qn9d6x10:n9<d6x10:=by have:=(Array.getElem?_eq_some_iff.1 hkn9).1; omega
      have qd6x11d6x10:d6x11<d6x10:=by have:=(Array.getElem?_eq_some_iff.1 hkd6x11).1; omega
      refine SX.list_alloc 0 d6x10 [(.I 0),(.slice none 0 0),(.I 0),(.I 0),(.I 0),(.slice none 0 0),(.I 0),(.slice none 0 0),(.I 0),(.slice none 0 0)] 62 [(.e 6 (.P d6x10)),(.e 7 (.P d6x11)),(.e 54 (.agg #[.I y.params,.slice B1z y.ops.length j1z,.I y.term.kind,.I y.term.a,.I y.term.n,.slice B2z y.term.args.length j2z,.I y.term.b0,.slice B3z y.term.args0.length j3z,.I y.term.b1,.slice B4z y.term.args1.length j4z])),(.e 49 (.agg #[.I y.params,.slice B1y y.ops.length j1y,.I y.term.kind,.I y.term.a,.I y.term.n,.slice B2y y.term.args.length j2y,.I y.term.b0,.slice B3y y.term.args0.length j3y,.I y.term.b1,.slice B4y y.term.args1.length j4y])),(.e 53 (.pointer (some ⟨bbz,boz+k*10,none⟩))),(.e 48 (.pointer (some ⟨bby,boy+k*10,none⟩))),(.e 51 (.slice (some ⟨bbz,boz,none⟩) c.blocks.length k1q)),(.e 46 (.slice (some ⟨bby,boy,none⟩) c.blocks.length k1)),(.e 52 (.I ((k:Nat):Int))),(.e 50 (.pointer (some ⟨n9,1,none⟩))),(.e 47 (.I ((k:Nat):Int))),(.e 45 (.pointer (some ⟨n5,1,none⟩))),(.e 2 (.P n5)),(.e 3 (.P n9)),(.e 5 (.I ((k:Nat):Int))),(.e 42 (.bool (decide (((k:Nat):Int)<((c.blocks.length:Nat):Int)))))] hR hM hd6x10 (by kernel_rfl) ?_
      clear hR hM; intro a61 w62 hR hb63 hM hkd6x10 hld6x10 hned6x10; clear hd6x10
      replace hB:=hB.tr hb63
      replace hkn5:=SX.blk_below hkn5 hb63
      replace hkn9:=SX.blk_below hkn9 hb63
      replace hkd6x11:=SX.blk_below hkd6x11 hb63
      refine SX.list_end 1 (by kernel_rfl) ?_
      refine hK60 _ _ (fun _=>hM) ?_
      refine SX.any_loud 1 [12] 2 (by kernel_rfl) (by kernel_rfl) (by kernel_rfl) (by kernel_rfl) (SX.next1_cons ?_ SX.next1_nil)
      ·skip
       intro K64 hK64
       refine SX.list_store 0 [(0,(.I y.params)),(1,(.slice B1y y.ops.length j1y)),(2,(.I y.term.kind)),(3,(.I y.term.a)),(4,(.I y.term.n)),(5,(.slice B2y y.term.args.length j2y)),(6,(.I y.term.b0)),(7,(.slice B3y y.term.args0.length j3y)),(8,(.I y.term.b1)),(9,(.slice B4y y.term.args1.length j4y))] [(.I y.params),(.slice B1y y.ops.length j1y),(.I y.term.kind),(.I y.term.a),(.I y.term.n),(.slice B2y y.term.args.length j2y),(.I y.term.b0),(.slice B3y y.term.args0.length j3y),(.I y.term.b1),(.slice B4y y.term.args1.length j4y)] [(⟨bbz,boz+k*10,none⟩,(.I y.params)),(⟨bbz,boz+k*10+1,none⟩,(.slice B1z y.ops.length j1z)),(⟨bbz,boz+k*10+2,none⟩,(.I y.term.kind)),(⟨bbz,boz+k*10+3,none⟩,(.I y.term.a)),(⟨bbz,boz+k*10+4,none⟩,(.I y.term.n)),(⟨bbz,boz+k*10+5,none⟩,(.slice B2z y.term.args.length j2z)),(⟨bbz,boz+k*10+6,none⟩,(.I y.term.b0)),(⟨bbz,boz+k*10+7,none⟩,(.slice B3z y.term.args0.length j3z)),(⟨bbz,boz+k*10+8,none⟩,(.I y.term.b1)),(⟨bbz,boz+k*10+9,none⟩,(.slice B4z y.term.args1.length j4z)),(⟨bby,boy+k*10,none⟩,(.I y.params)),(⟨bby,boy+k*10+1,none⟩,(.slice B1y y.ops.length j1y)),(⟨bby,boy+k*10+2,none⟩,(.I y.term.kind)),(⟨bby,boy+k*10+3,none⟩,(.I y.term.a)),(⟨bby,boy+k*10+4,none⟩,(.I y.term.n)),(⟨bby,boy+k*10+5,none⟩,(.slice B2y y.term.args.length j2y)),(⟨bby,boy+k*10+6,none⟩,(.I y.term.b0)),(⟨bby,boy+k*10+7,none⟩,(.slice B3y y.term.args0.length j3y)),(⟨bby,boy+k*10+8,none⟩,(.I y.term.b1)),(⟨bby,boy+k*10+9,none⟩,(.slice B4y y.term.args1.length j4y)),(⟨n9,0,none⟩,(.I c.params)),(⟨n9,1,none⟩,(.slice (some ⟨bbz,boz,none⟩) c.blocks.length k1q)),(⟨n9,2,none⟩,(.slice A2q c.contexts.length k2q)),(⟨n9,3,none⟩,(.slice A3q c.objects.length k3q)),(⟨n5,0,none⟩,(.I c.params)),(⟨n5,1,none⟩,(.slice (some ⟨bby,boy,none⟩) c.blocks.length k1)),(⟨n5,2,none⟩,(.slice A2 c.contexts.length k2)),(⟨n5,3,none⟩,(.slice A3 c.objects.length k3))] [(⟨d6x10,0,none⟩,(.I y.params)),(⟨d6x10,1,none⟩,(.slice B1y y.ops.length j1y)),(⟨d6x10,2,none⟩,(.I y.term.kind)),(⟨d6x10,3,none⟩,(.I y.term.a)),(⟨d6x10,4,none⟩,(.I y.term.n)),(⟨d6x10,5,none⟩,(.slice B2y y.term.args.length j2y)),(⟨d6x10,6,none⟩,(.I y.term.b0)),(⟨d6x10,7,none⟩,(.slice B3y y.term.args0.length j3y)),(⟨d6x10,8,none⟩,(.I y.term.b1)),(⟨d6x10,9,none⟩,(.slice B4y y.term.args1.length j4y)),(⟨bbz,boz+k*10,none⟩,(.I y.params)),(⟨bbz,boz+k*10+1,none⟩,(.slice B1z y.ops.length j1z)),(⟨bbz,boz+k*10+2,none⟩,(.I y.term.kind)),(⟨bbz,boz+k*10+3,none⟩,(.I y.term.a)),(⟨bbz,boz+k*10+4,none⟩,(.I y.term.n)),(⟨bbz,boz+k*10+5,none⟩,(.slice B2z y.term.args.length j2z)),(⟨bbz,boz+k*10+6,none⟩,(.I y.term.b0)),(⟨bbz,boz+k*10+7,none⟩,(.slice B3z y.term.args0.length j3z)),(⟨bbz,boz+k*10+8,none⟩,(.I y.term.b1)),(⟨bbz,boz+k*10+9,none⟩,(.slice B4z y.term.args1.length j4z)),(⟨bby,boy+k*10,none⟩,(.I y.params)),(⟨bby,boy+k*10+1,none⟩,(.slice B1y y.ops.length j1y)),(⟨bby,boy+k*10+2,none⟩,(.I y.term.kind)),(⟨bby,boy+k*10+3,none⟩,(.I y.term.a)),(⟨bby,boy+k*10+4,none⟩,(.I y.term.n)),(⟨bby,boy+k*10+5,none⟩,(.slice B2y y.term.args.length j2y)),(⟨bby,boy+k*10+6,none⟩,(.I y.term.b0)),(⟨bby,boy+k*10+7,none⟩,(.slice B3y y.term.args0.length j3y)),(⟨bby,boy+k*10+8,none⟩,(.I y.term.b1)),(⟨bby,boy+k*10+9,none⟩,(.slice B4y y.term.args1.length j4y)),(⟨n9,0,none⟩,(.I c.params)),(⟨n9,1,none⟩,(.slice (some ⟨bbz,boz,none⟩) c.blocks.length k1q)),(⟨n9,2,none⟩,(.slice A2q c.contexts.length k2q)),(⟨n9,3,none⟩,(.slice A3q c.objects.length k3q)),(⟨n5,0,none⟩,(.I c.params)),(⟨n5,1,none⟩,(.slice (some ⟨bby,boy,none⟩) c.blocks.length k1)),(⟨n5,2,none⟩,(.slice A2 c.contexts.length k2)),(⟨n5,3,none⟩,(.slice A3 c.objects.length k3))] hR (SX.cells_sub hM [0,1,2,3,4,5,6,7,8,9,10,11,12,13,14,15,16,17,18,19,20,21,22,23,24,25,26,27] (by kernel_rfl)) hned6x10 hkd6x10 (by kernel_rfl) (by kernel_rfl) (by kernel_rfl) ?_
       clear hR hM hkd6x10; intro a65 w66 hR hb67 hM hkd6x10
       replace hB:=hB.trans (hb67.below (by omega))
       replace hkn5:=(hb67.block _ (by omega)).trans hkn5
       replace hkn9:=(hb67.block _ (by omega)).trans hkn9
       replace hkd6x11:=(hb67.block _ (by omega)).trans hkd6x11
       have hX:=hM
       replace hM:SX.Cells _ [(⟨bbz,boz+k*10,none⟩,(.I y.params)),(⟨bbz,boz+k*10+1,none⟩,(.slice B1z y.ops.length j1z)),(⟨bbz,boz+k*10+2,none⟩,(.I y.term.kind)),(⟨bbz,boz+k*10+3,none⟩,(.I y.term.a)),(⟨bbz,boz+k*10+4,none⟩,(.I y.term.n)),(⟨bbz,boz+k*10+5,none⟩,(.slice B2z y.term.args.length j2z)),(⟨bbz,boz+k*10+6,none⟩,(.I y.term.b0)),(⟨bbz,boz+k*10+7,none⟩,(.slice B3z y.term.args0.length j3z)),(⟨bbz,boz+k*10+8,none⟩,(.I y.term.b1)),(⟨bbz,boz+k*10+9,none⟩,(.slice B4z y.term.args1.length j4z)),(⟨bby,boy+k*10,none⟩,(.I y.params)),(⟨bby,boy+k*10+1,none⟩,(.slice B1y y.ops.length j1y)),(⟨bby,boy+k*10+2,none⟩,(.I y.term.kind)),(⟨bby,boy+k*10+3,none⟩,(.I y.term.a)),(⟨bby,boy+k*10+4,none⟩,(.I y.term.n)),(⟨bby,boy+k*10+5,none⟩,(.slice B2y y.term.args.length j2y)),(⟨bby,boy+k*10+6,none⟩,(.I y.term.b0)),(⟨bby,boy+k*10+7,none⟩,(.slice B3y y.term.args0.length j3y)),(⟨bby,boy+k*10+8,none⟩,(.I y.term.b1)),(⟨bby,boy+k*10+9,none⟩,(.slice B4y y.term.args1.length j4y)),(⟨n9,0,none⟩,(.I c.params)),(⟨n9,1,none⟩,(.slice (some ⟨bbz,boz,none⟩) c.blocks.length k1q)),(⟨n9,2,none⟩,(.slice A2q c.contexts.length k2q)),(⟨n9,3,none⟩,(.slice A3q c.objects.length k3q)),(⟨n5,0,none⟩,(.I c.params)),(⟨n5,1,none⟩,(.slice (some ⟨bby,boy,none⟩) c.blocks.length k1)),(⟨n5,2,none⟩,(.slice A2 c.contexts.length k2)),(⟨n5,3,none⟩,(.slice A3 c.objects.length k3))]:=SX.cells_sub hM [10,11,12,13,14,15,16,17,18,19,20,21,22,23,24,25,26,27,28,29,30,31,32,33,34,35,36,37] (by kernel_rfl)
       refine SX.list_end 1 (by kernel_rfl) ?_
       refine hK64 _ _ (fun _=>hM) ?_
       refine SX.any_last 13 (by kernel_rfl) (by kernel_rfl) (by kernel_rfl) ?_
       clear hM; have hM:=hX; clear hX
       have hqd6x10e72:d6x10≠d6x11:=by omega
       have hqbbze72:bbz≠d6x11:=by omega
       have hqbbye72:bby≠d6x11:=by omega
       have hqn9e72:n9≠d6x11:=by omega
       have hqn5e72:n5≠d6x11:=by omega
       refine SX.list_store 0 [(0,(.I y.params)),(1,(.slice B1z y.ops.length j1z)),(2,(.I y.term.kind)),(3,(.I y.term.a)),(4,(.I y.term.n)),(5,(.slice B2z y.term.args.length j2z)),(6,(.I y.term.b0)),(7,(.slice B3z y.term.args0.length j3z)),(8,(.I y.term.b1)),(9,(.slice B4z y.term.args1.length j4z))] [(.I y.params),(.slice B1z y.ops.length j1z),(.I y.term.kind),(.I y.term.a),(.I y.term.n),(.slice B2z y.term.args.length j2z),(.I y.term.b0),(.slice B3z y.term.args0.length j3z),(.I y.term.b1),(.slice B4z y.term.args1.length j4z)] [(⟨d6x10,0,none⟩,(.I y.params)),(⟨d6x10,1,none⟩,(.slice B1y y.ops.length j1y)),(⟨d6x10,2,none⟩,(.I y.term.kind)),(⟨d6x10,3,none⟩,(.I y.term.a)),(⟨d6x10,4,none⟩,(.I y.term.n)),(⟨d6x10,5,none⟩,(.slice B2y y.term.args.length j2y)),(⟨d6x10,6,none⟩,(.I y.term.b0)),(⟨d6x10,7,none⟩,(.slice B3y y.term.args0.length j3y)),(⟨d6x10,8,none⟩,(.I y.term.b1)),(⟨d6x10,9,none⟩,(.slice B4y y.term.args1.length j4y)),(⟨bbz,boz+k*10,none⟩,(.I y.params)),(⟨bbz,boz+k*10+1,none⟩,(.slice B1z y.ops.length j1z)),(⟨bbz,boz+k*10+2,none⟩,(.I y.term.kind)),(⟨bbz,boz+k*10+3,none⟩,(.I y.term.a)),(⟨bbz,boz+k*10+4,none⟩,(.I y.term.n)),(⟨bbz,boz+k*10+5,none⟩,(.slice B2z y.term.args.length j2z)),(⟨bbz,boz+k*10+6,none⟩,(.I y.term.b0)),(⟨bbz,boz+k*10+7,none⟩,(.slice B3z y.term.args0.length j3z)),(⟨bbz,boz+k*10+8,none⟩,(.I y.term.b1)),(⟨bbz,boz+k*10+9,none⟩,(.slice B4z y.term.args1.length j4z)),(⟨bby,boy+k*10,none⟩,(.I y.params)),(⟨bby,boy+k*10+1,none⟩,(.slice B1y y.ops.length j1y)),(⟨bby,boy+k*10+2,none⟩,(.I y.term.kind)),(⟨bby,boy+k*10+3,none⟩,(.I y.term.a)),(⟨bby,boy+k*10+4,none⟩,(.I y.term.n)),(⟨bby,boy+k*10+5,none⟩,(.slice B2y y.term.args.length j2y)),(⟨bby,boy+k*10+6,none⟩,(.I y.term.b0)),(⟨bby,boy+k*10+7,none⟩,(.slice B3y y.term.args0.length j3y)),(⟨bby,boy+k*10+8,none⟩,(.I y.term.b1)),(⟨bby,boy+k*10+9,none⟩,(.slice B4y y.term.args1.length j4y)),(⟨n9,0,none⟩,(.I c.params)),(⟨n9,1,none⟩,(.slice (some ⟨bbz,boz,none⟩) c.blocks.length k1q)),(⟨n9,2,none⟩,(.slice A2q c.contexts.length k2q)),(⟨n9,3,none⟩,(.slice A3q c.objects.length k3q)),(⟨n5,0,none⟩,(.I c.params)),(⟨n5,1,none⟩,(.slice (some ⟨bby,boy,none⟩) c.blocks.length k1)),(⟨n5,2,none⟩,(.slice A2 c.contexts.length k2)),(⟨n5,3,none⟩,(.slice A3 c.objects.length k3))] [(⟨d6x11,0,none⟩,(.I y.params)),(⟨d6x11,1,none⟩,(.slice B1z y.ops.length j1z)),(⟨d6x11,2,none⟩,(.I y.term.kind)),(⟨d6x11,3,none⟩,(.I y.term.a)),(⟨d6x11,4,none⟩,(.I y.term.n)),(⟨d6x11,5,none⟩,(.slice B2z y.term.args.length j2z)),(⟨d6x11,6,none⟩,(.I y.term.b0)),(⟨d6x11,7,none⟩,(.slice B3z y.term.args0.length j3z)),(⟨d6x11,8,none⟩,(.I y.term.b1)),(⟨d6x11,9,none⟩,(.slice B4z y.term.args1.length j4z)),(⟨d6x10,0,none⟩,(.I y.params)),(⟨d6x10,1,none⟩,(.slice B1y y.ops.length j1y)),(⟨d6x10,2,none⟩,(.I y.term.kind)),(⟨d6x10,3,none⟩,(.I y.term.a)),(⟨d6x10,4,none⟩,(.I y.term.n)),(⟨d6x10,5,none⟩,(.slice B2y y.term.args.length j2y)),(⟨d6x10,6,none⟩,(.I y.term.b0)),(⟨d6x10,7,none⟩,(.slice B3y y.term.args0.length j3y)),(⟨d6x10,8,none⟩,(.I y.term.b1)),(⟨d6x10,9,none⟩,(.slice B4y y.term.args1.length j4y)),(⟨bbz,boz+k*10,none⟩,(.I y.params)),(⟨bbz,boz+k*10+1,none⟩,(.slice B1z y.ops.length j1z)),(⟨bbz,boz+k*10+2,none⟩,(.I y.term.kind)),(⟨bbz,boz+k*10+3,none⟩,(.I y.term.a)),(⟨bbz,boz+k*10+4,none⟩,(.I y.term.n)),(⟨bbz,boz+k*10+5,none⟩,(.slice B2z y.term.args.length j2z)),(⟨bbz,boz+k*10+6,none⟩,(.I y.term.b0)),(⟨bbz,boz+k*10+7,none⟩,(.slice B3z y.term.args0.length j3z)),(⟨bbz,boz+k*10+8,none⟩,(.I y.term.b1)),(⟨bbz,boz+k*10+9,none⟩,(.slice B4z y.term.args1.length j4z)),(⟨bby,boy+k*10,none⟩,(.I y.params)),(⟨bby,boy+k*10+1,none⟩,(.slice B1y y.ops.length j1y)),(⟨bby,boy+k*10+2,none⟩,(.I y.term.kind)),(⟨bby,boy+k*10+3,none⟩,(.I y.term.a)),(⟨bby,boy+k*10+4,none⟩,(.I y.term.n)),(⟨bby,boy+k*10+5,none⟩,(.slice B2y y.term.args.length j2y)),(⟨bby,boy+k*10+6,none⟩,(.I y.term.b0)),(⟨bby,boy+k*10+7,none⟩,(.slice B3y y.term.args0.length j3y)),(⟨bby,boy+k*10+8,none⟩,(.I y.term.b1)),(⟨bby,boy+k*10+9,none⟩,(.slice B4y y.term.args1.length j4y)),(⟨n9,0,none⟩,(.I c.params)),(⟨n9,1,none⟩,(.slice (some ⟨bbz,boz,none⟩) c.blocks.length k1q)),(⟨n9,2,none⟩,(.slice A2q c.contexts.length k2q)),(⟨n9,3,none⟩,(.slice A3q c.objects.length k3q)),(⟨n5,0,none⟩,(.I c.params)),(⟨n5,1,none⟩,(.slice (some ⟨bby,boy,none⟩) c.blocks.length k1)),(⟨n5,2,none⟩,(.slice A2 c.contexts.length k2)),(⟨n5,3,none⟩,(.slice A3 c.objects.length k3))] hR (SX.cells_sub hM [0,1,2,3,4,5,6,7,8,9,10,11,12,13,14,15,16,17,18,19,20,21,22,23,24,25,26,27,28,29,30,31,32,33,34,35,36,37] (by kernel_rfl)) (SX.ne_cons hqd6x10e72 (SX.ne_cons hqd6x10e72 (SX.ne_cons hqd6x10e72 (SX.ne_cons hqd6x10e72 (SX.ne_cons hqd6x10e72 (SX.ne_cons hqd6x10e72 (SX.ne_cons hqd6x10e72 (SX.ne_cons hqd6x10e72 (SX.ne_cons hqd6x10e72 (SX.ne_cons hqd6x10e72 (SX.ne_cons hqbbze72 (SX.ne_cons hqbbze72 (SX.ne_cons hqbbze72 (SX.ne_cons hqbbze72 (SX.ne_cons hqbbze72 (SX.ne_cons hqbbze72 (SX.ne_cons hqbbze72 (SX.ne_cons hqbbze72 (SX.ne_cons hqbbze72 (SX.ne_cons hqbbze72 (SX.ne_cons hqbbye72 (SX.ne_cons hqbbye72 (SX.ne_cons hqbbye72 (SX.ne_cons hqbbye72 (SX.ne_cons hqbbye72 (SX.ne_cons hqbbye72 (SX.ne_cons hqbbye72 (SX.ne_cons hqbbye72 (SX.ne_cons hqbbye72 (SX.ne_cons hqbbye72 (SX.ne_cons hqn9e72 (SX.ne_cons hqn9e72 (SX.ne_cons hqn9e72 (SX.ne_cons hqn9e72 (SX.ne_cons hqn5e72 (SX.ne_cons hqn5e72 (SX.ne_cons hqn5e72 (SX.ne_cons hqn5e72 SX.ne_nil)))))))))))))))))))))))))))))))))))))) hkd6x11 (by kernel_rfl) (by kernel_rfl) (by kernel_rfl) ?_
       clear hR hM hkd6x11; intro a69 w70 hR hb71 hM hkd6x11
       replace hB:=hB.trans (hb71.below (by omega))
       replace hkn5:=(hb71.block _ (by omega)).trans hkn5
       replace hkn9:=(hb71.block _ (by omega)).trans hkn9
       replace hkd6x10:=(hb71.block _ (by omega)).trans hkd6x10
       refine SX.list_end 1 (by kernel_rfl) ?_
       exact ⟨d6x10,d6x11,hR.keep (ts:=[2,3,5,6,7]) (by kernel_rfl),hB,SX.cells_sub hM [0,1,2,3,4,5,6,7,8,9,10,11,12,13,14,15,16,17,18,19,20,21,22,23,24,25,26,27,28,29,30,31,32,33,34,35,36,37,38,39,40,41,42,43,44,45,46,47] (by kernel_rfl),hzd6x10,qn5d6x10,qn9d6x10,hzd6x11,qn5d6x11,qn9d6x11,hkd6x10,hkd6x11,hkn5,hkn9⟩
   ·skip
    clear hR hM hB hkn5 hkn9
    rintro a73 w74 ⟨d6x10,d6x11,hR,hB,hM,hzd6x10,qn5d6x10,qn9d6x10,hzd6x11,qn5d6x11,qn9d6x11,hkd6x10,hkd6x11,hkn5,hkn9⟩
    refine hK34 _ _ ?_
    refine wp_seq_k fun K75 hK75=>?_
    refine SX.region_q [(5,(y.params != y.params)),(13,((y.params != y.params)||(!true))),(22,(((y.params != y.params)||(!true))||(y.term.kind != y.term.kind))),(31,((((y.params != y.params)||(!true))||(y.term.kind != y.term.kind))||(y.term.a != y.term.a))),(40,(((((y.params != y.params)||(!true))||(y.term.kind != y.term.kind))||(y.term.a != y.term.a))||(y.term.n != y.term.n))),(50,((((((y.params != y.params)||(!true))||(y.term.kind != y.term.kind))||(y.term.a != y.term.a))||(y.term.n != y.term.n))||(!true)))] [.ld [],.ld [10],.ld [],.ld [0],.ld [],.ld [],.ld [],.ld [11],.ld [],.ld [1],.cl (.bool true),.ld [],.pk,.ld [],.ld [],.ld [],.ld [12],.ld [],.ld [],.ld [2],.ld [],.pk,.ld [],.ld [],.ld [],.ld [13],.ld [],.ld [],.ld [3],.ld [],.pk,.ld [],.ld [],.ld [],.ld [14],.ld [],.ld [],.ld [4],.ld [],.pk,.ld [],.ld [],.ld [],.ld [15],.ld [],.ld [],.ld [5],.cl (.bool true),.ld [],.pk,.ld [],.ld [],.ld [],.ld [16,17,18,19],.ld [],.ld [],.ld [6,7,8,9],.cl (.bool true),.ld [],.pk] [2,3,5,114] [(.e 2 (.P n5)),(.e 3 (.P n9)),(.e 5 (.I ((k:Nat):Int))),(.e 114 (.bool (((((((y.params != y.params)||(!true))||(y.term.kind != y.term.kind))||(y.term.a != y.term.a))||(y.term.n != y.term.n))||(!true))||(!true))))] [] [] [([(5,false)],54,#[(.slice B1y y.ops.length j1y),(.slice B1z y.ops.length j1z)],(.bool true)),([(40,false)],28,#[(.slice B2y y.term.args.length j2y),(.slice B2z y.term.args.length j2z)],(.bool true)),([(50,false)],55,#[(.agg #[.I y.term.b0,.slice B3y y.term.args0.length j3y,.I y.term.b1,.slice B4y y.term.args1.length j4y]),(.agg #[.I y.term.b0,.slice B3z y.term.args0.length j3z,.I y.term.b1,.slice B4z y.term.args1.length j4z])],(.bool true))] [] hR hM mix (by kernel_rfl) (by kernel_rfl) (by kernel_rfl) (by kernel_rfl) trivial trivial (fun w' hb' hM'=>trivial) (fun w' hb' hM'=>⟨fun hg=>listP_any _ _ _ _ ((hbly.2.1).below (hB.tr hb')) ((hblz.2.1).below (hB.tr hb')),fun hg=>listI_any _ _ _ _ (hbly.2.2.1.below (hB.tr hb')) (hblz.2.2.1.below (hB.tr hb')),fun hg=>edges_any _ _ _ _ _ _ _ _ _ _ _ _ _ (hbly.2.2.2.1.below (hB.tr hb')) (hbly.2.2.2.2.below (hB.tr hb')) (hblz.2.2.2.1.below (hB.tr hb')) (hblz.2.2.2.2.below (hB.tr hb')),trivial⟩) ?_
    clear hR hM; intro a76 w77 hR hb78 hM
    replace hB:=hB.tr hb78
    replace hkn5:=SX.blk_below hkn5 hb78
    replace hkn9:=SX.blk_below hkn9 hb78
    replace hkd6x10:=SX.blk_below hkd6x10 hb78
    replace hkd6x11:=SX.blk_below hkd6x11 hb78
    refine hK75 _ _ ?_
    refine SX.cond_ (((((((y.params != y.params)||(!true))||(y.term.kind != y.term.kind))||(y.term.a != y.term.a))||(y.term.n != y.term.n))||(!true))||(!true)) hR (by kernel_rfl) (fun h79=>?_) (fun h79=>?_)
    ·skip
     exact absurd h79 (by simp)
    ·skip
     refine wp_skip ?_
     refine hK33 _ _ ?_
     refine SX.region_q [] [.ld [],.nm (.I ((k+1:Nat):Int)),.ld []] [2,3,5] [(.e 2 (.P n5)),(.e 3 (.P n9)),(.e 5 (.I ((k+1:Nat):Int)))] [] [] [] [([],(.I (IntKind.i64.wrap (((k:Nat):Int)+1))),(.I ((k+1:Nat):Int)))] hR hM mix (by kernel_rfl) (by kernel_rfl) (by kernel_rfl) (by kernel_rfl) trivial ⟨fun hg=>SX.wrap_ok (by omega),trivial⟩ (fun w' hb' hM'=>trivial) (fun w' hb' hM'=>trivial) ?_
     clear hR hM; intro a80 w81 hR hb82 hM
     replace hB:=hB.tr hb82
     replace hkn5:=SX.blk_below hkn5 hb82
     replace hkn9:=SX.blk_below hkn9 hb82
     replace hkd6x10:=SX.blk_below hkd6x10 hb82
     replace hkd6x11:=SX.blk_below hkd6x11 hb82
     exact ⟨c.blocks.length-(k+1),by omega,k+1,rfl,by omega,hR.keep (ts:=[2,3,5]) (by kernel_rfl),hB,SX.cells_sub hM [40,41,42,43,44,45,46,47] (by kernel_rfl),trivial,hkn5,hkn9⟩
  ·skip
   refine wp_exit ?_
   refine hK19 _ _ ?_
   refine wp_seq_k fun K83 hK83=>?_
   refine SX.region_q0 [.ld []] [2,3,4,5] [(.e 2 (.P n5)),(.e 3 (.P n9)),(.e 4 (.bool true)),(.e 5 (.I ((k:Nat):Int)))] hR hM mix (by kernel_rfl) (by kernel_rfl) (by kernel_rfl) (by kernel_rfl) ?_
   clear hR hM; intro a84 w85 hR hb86 hM
   replace hB:=hB.tr hb86
   replace hkn5:=SX.blk_below hkn5 hb86
   replace hkn9:=SX.blk_below hkn9 hb86
   refine hK83 _ _ ?_
   refine wp_ret ?_
   try simp only [Exit.then,Exit.inBlock,Nat.reduceEqDiff,↓reduceIte]
   refine SX.ret_ 4 (.bool true) Try.results16 hR (by kernel_rfl) ?_
   clear hR hM mix hK1 hzn5 hb4 hkn5 hln5 hn5 hzn9 qn5n9 hb8 hkn9 hln9 hn9 hb12 hK13 hK14 hb17 hK19 hK20 hb23 hm26 hK27 hK28 hb31 hK83 hb86
   exact ⟨rfl,hB⟩
end Go.Proofs.Ytlkcidmmpeebeaa
