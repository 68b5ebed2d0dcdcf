/- Proved: returns,isTail,List -/
import Derived.Test.YtlkcidmmpeebeaaEdge2
set_option linter.unusedVariables false
set_option linter.unusedSimpArgs false
namespace Go.Proofs.Ytlkcidmmpeebeaa
open Go.RowKit
set_option maxRecDepth 100000
def retB (b:BlockD):Bool:=b.ops.all (fun o=>!(o.kind != 21&&o.kind != 20))&&(b.term.kind==4&&b.term.a==0)
theorem retB_no {b:BlockD} {k:Nat} {o:OpD} (hx:b.ops[k]?=some o) (h:(o.kind != 21&&o.kind != 20)=true):false=retB b:=by
 unfold retB; rw [← all_no hx (by rw [h]; rfl)]; rfl
theorem retB_yes {b:BlockD} {k:Nat} (h:Upto b.ops (fun _ o=>!(o.kind != 21&&o.kind != 20)) k) (hk:b.ops.length≤k):(b.term.kind==4&&b.term.a==0)=retB b:=by
 unfold retB; rw [← h.all hk]; simp
def isTailD (c:CodeD) (t:TermD):Bool:=if ((t.kind != 3)||decide (0≤t.b1))||decide ((0:Int)<(t.args0.length:Int)) then false else match c.blocks[t.b0.toNat]? with | some b=>retB b | none=>false

set_option maxHeartbeats 400000 in
theorem returns_any (w:World) (b:BlockD) (u1 u2 u3 u4:Value) (hb:BlkAt w u1 u2 u3 u4 b):Calls Try.prog 56 #[(.agg #[.I b.params,u1,.I b.term.kind,.I b.term.a,.I b.term.n,u2,.I b.term.b0,u3,.I b.term.b1,u4])] w fun e w'=>e=.returned (.bool (retB b))∧Below w.heap.size w w':=by
 have hb0:=hb
 obtain ⟨B1,j1,rfl,t1⟩:=hb.2.1.shape
 obtain ⟨B2,j2,rfl,t2⟩:=hb.2.2.1.shape
 obtain ⟨B3,j3,rfl,t3⟩:=hb.2.2.2.1.shape
 obtain ⟨B4,j4,rfl,t4⟩:=hb.2.2.2.2.shape
 unfold Shape at t1 t2 t3 t4
 have mix:=mixed
 have hB:Below w.heap.size w w:=Below.refl _ _
 have hM:SX.Cells w []:=SX.cells_nil
 refine SX.enter [(.agg #[.I b.params,.slice B1 b.ops.length j1,.I b.term.kind,.I b.term.a,.I b.term.n,.slice B2 b.term.args.length j2,.I b.term.b0,.slice B3 b.term.args0.length j3,.I b.term.b1,.slice B4 b.term.args1.length j4])] 31 Try.func56 rfl rfl (by kernel_rfl) ?_
 intro a hR
 refine wp_seq_k fun K1 hK1=>?_
 refine SX.region_l ?_
 obtain ⟨n5,hn5⟩:∃ n,w.heap.size=n:=⟨_,rfl⟩
 have hzn5:w.heap.size≤n5:=by have:=hB.size; omega
 refine SX.list_box 0 n5 [(.I b.params),(.slice B1 b.ops.length j1),(.I b.term.kind),(.I b.term.a),(.I b.term.n),(.slice B2 b.term.args.length j2),(.I b.term.b0),(.slice B3 b.term.args0.length j3),(.I b.term.b1),(.slice B4 b.term.args1.length j4)] 62 ((.e 1 (.P n5))::[(.e 0 (.agg #[.I b.params,.slice B1 b.ops.length j1,.I b.term.kind,.I b.term.a,.I b.term.n,.slice B2 b.term.args.length j2,.I b.term.b0,.slice B3 b.term.args0.length j3,.I b.term.b1,.slice B4 b.term.args1.length j4]))]) [(⟨n5,0,none⟩,(.I b.params)),(⟨n5,1,none⟩,(.slice B1 b.ops.length j1)),(⟨n5,2,none⟩,(.I b.term.kind)),(⟨n5,3,none⟩,(.I b.term.a)),(⟨n5,4,none⟩,(.I b.term.n)),(⟨n5,5,none⟩,(.slice B2 b.term.args.length j2)),(⟨n5,6,none⟩,(.I b.term.b0)),(⟨n5,7,none⟩,(.slice B3 b.term.args0.length j3)),(⟨n5,8,none⟩,(.I b.term.b1)),(⟨n5,9,none⟩,(.slice B4 b.term.args1.length j4))] hR hM hn5 (by kernel_rfl) (by kernel_rfl) ?_
 clear hR hM; intro a2 w3 hR hb4 hM hkn5 hln5
 replace hB:=hB.tr hb4
 replace hR:SX.RSt 31 [] [(.e 1 (.P n5))] a2:=hR.keep (ts:=[1]) (by kernel_rfl)
 refine SX.list_q0 (κ:=[]) 1 1 [.ld []] [1,2] [(.e 1 (.P n5)),(.e 2 (.bool false))] hR hM (by kernel_rfl) (by kernel_rfl) ?_
 clear hR hM; intro a6 w7 hR hb8 hM
 replace hB:=hB.tr hb8
 replace hkn5:=SX.blk_below hkn5 hb8
 refine SX.list_end 2 (by kernel_rfl) ?_
 refine hK1 _ _ ?_
 refine wp_seq_k fun K9 hK9=>?_
 refine wp_seq_k fun K10 hK10=>?_
 refine SX.region_q0 [.ld [],.ld [1],.ld [],.ld []] [1,2,6,7,8] [(.e 1 (.P n5)),(.e 2 (.bool false)),(.e 6 (.slice B1 b.ops.length j1)),(.e 7 (.I ((b.ops.length:Nat):Int))),(.e 8 (.I 0))] hR hM mix (by kernel_rfl) (by kernel_rfl) (by kernel_rfl) (by kernel_rfl) ?_
 clear hR hM; intro a11 w12 hR hb13 hM
 replace hB:=hB.tr hb13
 replace hkn5:=SX.blk_below hkn5 hb13
 refine hK10 _ _ ?_
 refine wp_block ?_
 refine wp_loop_ghost (fun m16 a' w'=>∃ k:Nat,m16=b.ops.length-k∧k≤b.ops.length∧SX.RSt 31 [] [(.e 1 (.P n5)),(.e 6 (.slice B1 b.ops.length j1)),(.e 7 (.I ((b.ops.length:Nat):Int))),(.e 8 (.I ((k:Nat):Int)))] a'∧Below w.heap.size w w'∧SX.Cells w' [(⟨n5,0,none⟩,(.I b.params)),(⟨n5,1,none⟩,(.slice B1 b.ops.length j1)),(⟨n5,2,none⟩,(.I b.term.kind)),(⟨n5,3,none⟩,(.I b.term.a)),(⟨n5,4,none⟩,(.I b.term.n)),(⟨n5,5,none⟩,(.slice B2 b.term.args.length j2)),(⟨n5,6,none⟩,(.I b.term.b0)),(⟨n5,7,none⟩,(.slice B3 b.term.args0.length j3)),(⟨n5,8,none⟩,(.I b.term.b1)),(⟨n5,9,none⟩,(.slice B4 b.term.args1.length j4))]∧Upto b.ops (fun _ o=>!(o.kind != 21&&o.kind != 20)) k) (b.ops.length-0) ⟨0,rfl,Nat.zero_le _,hR.keep (ts:=[1,6,7,8]) (by kernel_rfl),hB,hM,Upto.zero⟩ ?_
 clear hR hM hB
 rintro m16 a14 w15 ⟨k,hm16,hlek,hR,hB,hM,hIk⟩
 refine wp_seq_k fun K17 hK17=>?_
 refine SX.region_q0 [.ld []] [1,6,7,8,9] [(.e 1 (.P n5)),(.e 6 (.slice B1 b.ops.length j1)),(.e 7 (.I ((b.ops.length:Nat):Int))),(.e 8 (.I ((k:Nat):Int))),(.e 9 (.bool (decide (((k:Nat):Int)<((b.ops.length:Nat):Int)))))] hR hM mix (by kernel_rfl) (by kernel_rfl) (by kernel_rfl) (by kernel_rfl) ?_
 clear hR hM; intro a18 w19 hR hb20 hM
 replace hB:=hB.tr hb20
 refine hK17 _ _ ?_
 refine wp_seq_k fun K21 hK21=>?_
 refine SX.cond_ (decide (((k:Nat):Int)<((b.ops.length:Nat):Int))) hR (by kernel_rfl) (fun h22=>?_) (fun h22=>?_)
 ·skip
  refine wp_skip ?_
  refine hK21 _ _ ?_
  refine wp_seq_k fun K23 hK23=>?_
  refine wp_block ?_
  refine wp_seq_k fun K24 hK24=>?_
  have hlty:k<b.ops.length:=lt_of_dec h22
  obtain ⟨y,hy⟩:=get_of_lt hlty
  obtain ⟨oby,ooy,hAy,hiy,co0y,co1y,co2y,co3y,co4y,co5y,co6y,co7y,co8y,co9y,co10y⟩:=hb0.2.1.elem hy
  subst hAy
  have hoy:oby<w.heap.size:=World.block_lt_of_cell? w _ co0y
  replace hM:=(SX.cells_add (cell_below hB co0y) (SX.cells_add (cell_below hB co1y) (SX.cells_add (cell_below hB co2y) (SX.cells_add (cell_below hB co3y) (SX.cells_add (cell_below hB co4y) (SX.cells_add (cell_below hB co5y) (SX.cells_add (cell_below hB co6y) (SX.cells_add (cell_below hB co7y) (SX.cells_add (cell_below hB co8y) (SX.cells_add (cell_below hB co9y) (SX.cells_add (cell_below hB co10y) hM)))))))))))
  refine SX.region_l ?_
  refine SX.list_q (κ:=[]) 0 2 [.ix ⟨oby,ooy+k*11,none⟩,.ld [0,1,2,3,4,5,6,7,8,9,10]] [1,6,7,8,9,11] [(.e 1 (.P n5)),(.e 6 (.slice (some ⟨oby,ooy,none⟩) b.ops.length j1)),(.e 7 (.I ((b.ops.length:Nat):Int))),(.e 8 (.I ((k:Nat):Int))),(.e 9 (.bool (decide (((k:Nat):Int)<((b.ops.length:Nat):Int))))),(.e 11 (.agg #[.I y.kind,.I y.dst,.I y.a,.I y.b,.I y.n,.I y.ctx,.I y.var,.I y.piece,.I y.sk,.I y.sv,.I y.sa]))] [([],⟨oby,ooy,none⟩,b.ops.length,((k:Nat):Int),11,⟨oby,ooy+k*11,none⟩)] [] [] [] hR hM (by kernel_rfl) (by kernel_rfl) ⟨fun hg=>SX.ix_ok (by omega),trivial⟩ trivial (fun w' hb' hM'=>trivial) (fun w' hb' hM'=>trivial) ?_
  clear hR hM; intro a25 w26 hR hb27 hM
  replace hB:=hB.tr hb27
  obtain ⟨n31,hn31⟩:∃ n,w26.heap.size=n:=⟨_,rfl⟩
  have hzn31:w.heap.size≤n31:=by have:=hB.size; omega
  refine SX.list_alloc 2 n31 [(.I 0),(.I 0),(.I 0),(.I 0),(.I 0),(.I 0),(.I 0),(.I 0),(.I 0),(.I 0),(.I 0)] 74 ((.e 4 (.P n31))::[(.e 1 (.P n5)),(.e 6 (.slice (some ⟨oby,ooy,none⟩) b.ops.length j1)),(.e 7 (.I ((b.ops.length:Nat):Int))),(.e 8 (.I ((k:Nat):Int))),(.e 9 (.bool (decide (((k:Nat):Int)<((b.ops.length:Nat):Int))))),(.e 11 (.agg #[.I y.kind,.I y.dst,.I y.a,.I y.b,.I y.n,.I y.ctx,.I y.var,.I y.piece,.I y.sk,.I y.sv,.I y.sa]))]) hR hM hn31 (by kernel_rfl) ?_
  clear hR hM; intro a28 w29 hR hb30 hM hkn31 hln31 hnen31
  replace hB:=hB.tr hb30
  replace hR:SX.RSt 31 [] [(.e 1 (.P n5)),(.e 4 (.P n31)),(.e 6 (.slice (some ⟨oby,ooy,none⟩) b.ops.length j1)),(.e 7 (.I ((b.ops.length:Nat):Int))),(.e 8 (.I ((k:Nat):Int))),(.e 9 (.bool (decide (((k:Nat):Int)<((b.ops.length:Nat):Int))))),(.e 11 (.agg #[.I y.kind,.I y.dst,.I y.a,.I y.b,.I y.n,.I y.ctx,.I y.var,.I y.piece,.I y.sk,.I y.sv,.I y.sa]))] a28:=hR.keep (ts:=[1,4,6,7,8,9,11]) (by kernel_rfl)
  refine SX.list_store 3 [(0,(.I y.kind)),(1,(.I y.dst)),(2,(.I y.a)),(3,(.I y.b)),(4,(.I y.n)),(5,(.I y.ctx)),(6,(.I y.var)),(7,(.I y.piece)),(8,(.I y.sk)),(9,(.I y.sv)),(10,(.I y.sa))] [(.I y.kind),(.I y.dst),(.I y.a),(.I y.b),(.I y.n),(.I y.ctx),(.I y.var),(.I y.piece),(.I y.sk),(.I y.sv),(.I y.sa)] [(⟨oby,ooy+k*11,none⟩,(.I y.kind)),(⟨oby,ooy+k*11+1,none⟩,(.I y.dst)),(⟨oby,ooy+k*11+2,none⟩,(.I y.a)),(⟨oby,ooy+k*11+3,none⟩,(.I y.b)),(⟨oby,ooy+k*11+4,none⟩,(.I y.n)),(⟨oby,ooy+k*11+5,none⟩,(.I y.ctx)),(⟨oby,ooy+k*11+6,none⟩,(.I y.var)),(⟨oby,ooy+k*11+7,none⟩,(.I y.piece)),(⟨oby,ooy+k*11+8,none⟩,(.I y.sk)),(⟨oby,ooy+k*11+9,none⟩,(.I y.sv)),(⟨oby,ooy+k*11+10,none⟩,(.I y.sa)),(⟨n5,0,none⟩,(.I b.params)),(⟨n5,1,none⟩,(.slice (some ⟨oby,ooy,none⟩) b.ops.length j1)),(⟨n5,2,none⟩,(.I b.term.kind)),(⟨n5,3,none⟩,(.I b.term.a)),(⟨n5,4,none⟩,(.I b.term.n)),(⟨n5,5,none⟩,(.slice B2 b.term.args.length j2)),(⟨n5,6,none⟩,(.I b.term.b0)),(⟨n5,7,none⟩,(.slice B3 b.term.args0.length j3)),(⟨n5,8,none⟩,(.I b.term.b1)),(⟨n5,9,none⟩,(.slice B4 b.term.args1.length j4))] [(⟨n31,0,none⟩,(.I y.kind)),(⟨n31,1,none⟩,(.I y.dst)),(⟨n31,2,none⟩,(.I y.a)),(⟨n31,3,none⟩,(.I y.b)),(⟨n31,4,none⟩,(.I y.n)),(⟨n31,5,none⟩,(.I y.ctx)),(⟨n31,6,none⟩,(.I y.var)),(⟨n31,7,none⟩,(.I y.piece)),(⟨n31,8,none⟩,(.I y.sk)),(⟨n31,9,none⟩,(.I y.sv)),(⟨n31,10,none⟩,(.I y.sa)),(⟨oby,ooy+k*11,none⟩,(.I y.kind)),(⟨oby,ooy+k*11+1,none⟩,(.I y.dst)),(⟨oby,ooy+k*11+2,none⟩,(.I y.a)),(⟨oby,ooy+k*11+3,none⟩,(.I y.b)),(⟨oby,ooy+k*11+4,none⟩,(.I y.n)),(⟨oby,ooy+k*11+5,none⟩,(.I y.ctx)),(⟨oby,ooy+k*11+6,none⟩,(.I y.var)),(⟨oby,ooy+k*11+7,none⟩,(.I y.piece)),(⟨oby,ooy+k*11+8,none⟩,(.I y.sk)),(⟨oby,ooy+k*11+9,none⟩,(.I y.sv)),(⟨oby,ooy+k*11+10,none⟩,(.I y.sa)),(⟨n5,0,none⟩,(.I b.params)),(⟨n5,1,none⟩,(.slice (some ⟨oby,ooy,none⟩) b.ops.length j1)),(⟨n5,2,none⟩,(.I b.term.kind)),(⟨n5,3,none⟩,(.I b.term.a)),(⟨n5,4,none⟩,(.I b.term.n)),(⟨n5,5,none⟩,(.slice B2 b.term.args.length j2)),(⟨n5,6,none⟩,(.I b.term.b0)),(⟨n5,7,none⟩,(.slice B3 b.term.args0.length j3)),(⟨n5,8,none⟩,(.I b.term.b1)),(⟨n5,9,none⟩,(.slice B4 b.term.args1.length j4))] hR (SX.cells_sub hM [0,1,2,3,4,5,6,7,8,9,10,11,12,13,14,15,16,17,18,19,20] (by kernel_rfl)) hnen31 hkn31 (by kernel_rfl) (by kernel_rfl) (by kernel_rfl) ?_
  clear hR hM hkn31; intro a32 w33 hR hb34 hM hkn31
  replace hB:=hB.trans (hb34.below (by omega))
  refine SX.list_end 4 (by kernel_rfl) ?_
  refine hK24 _ _ ?_
  refine wp_seq_k fun K35 hK35=>?_
  refine SX.region_q [(3,(y.kind != 21))] [.ld [],.ld [0],.ld [],.ld [],.ld [],.ld [0],.ld [],.pk] [1,4,6,7,8,9,11,19] [(.e 1 (.P n5)),(.e 4 (.P n31)),(.e 6 (.slice (some ⟨oby,ooy,none⟩) b.ops.length j1)),(.e 7 (.I ((b.ops.length:Nat):Int))),(.e 8 (.I ((k:Nat):Int))),(.e 9 (.bool (decide (((k:Nat):Int)<((b.ops.length:Nat):Int))))),(.e 11 (.agg #[.I y.kind,.I y.dst,.I y.a,.I y.b,.I y.n,.I y.ctx,.I y.var,.I y.piece,.I y.sk,.I y.sv,.I y.sa])),(.e 19 (.bool ((y.kind != 21)&&(y.kind != 20))))] [] [] [] [] hR hM mix (by kernel_rfl) (by kernel_rfl) (by kernel_rfl) (by kernel_rfl) trivial trivial (fun w' hb' hM'=>trivial) (fun w' hb' hM'=>trivial) ?_
  clear hR hM; intro a36 w37 hR hb38 hM
  replace hB:=hB.tr hb38
  replace hkn31:=SX.blk_below hkn31 hb38
  refine hK35 _ _ ?_
  refine SX.cond_ ((y.kind != 21)&&(y.kind != 20)) hR (by kernel_rfl) (fun h39=>?_) (fun h39=>?_)
  ·skip
   refine wp_seq_k fun K40 hK40=>?_
   refine SX.region_q0 [.ld []] [1,2,4,6,7,8,9,11,19] [(.e 1 (.P n5)),(.e 2 (.bool false)),(.e 4 (.P n31)),(.e 6 (.slice (some ⟨oby,ooy,none⟩) b.ops.length j1)),(.e 7 (.I ((b.ops.length:Nat):Int))),(.e 8 (.I ((k:Nat):Int))),(.e 9 (.bool (decide (((k:Nat):Int)<((b.ops.length:Nat):Int))))),(.e 11 (.agg #[.I y.kind,.I y.dst,.I y.a,.I y.b,.I y.n,.I y.ctx,.I y.var,.I y.piece,.I y.sk,.I y.sv,.I y.sa])),(.e 19 (.bool ((y.kind != 21)&&(y.kind != 20))))] hR hM mix (by kernel_rfl) (by kernel_rfl) (by kernel_rfl) (by kernel_rfl) ?_
   clear hR hM; intro a41 w42 hR hb43 hM
   replace hB:=hB.tr hb43
   replace hkn31:=SX.blk_below hkn31 hb43
   refine hK40 _ _ ?_
   refine wp_ret ?_
   try simp only [Exit.then,Exit.inBlock,Nat.reduceEqDiff,↓reduceIte]
   refine SX.ret_ 2 (.bool false) Try.results56 hR (by kernel_rfl) ?_
   clear hR hM mix hK1 hzn5 hb4 hkn5 hln5 hn5 hb8 hK9 hK10 hb13 hm16 hK17 hb20 hK21 hK23 hK24 hb27 hzn31 hb30 hkn31 hln31 hn31 hnen31 hb34 hK35 hb38 hK40 hb43
   refine ⟨ret_bool ?_,hB⟩
   exact retB_no hy h39
  ·skip
   refine wp_skip ?_
   refine hK23 _ _ ?_
   refine SX.region_q [] [.nm (.I ((k+1:Nat):Int)),.ld []] [1,4,6,7,8,9,11,19] [(.e 1 (.P n5)),(.e 4 (.P n31)),(.e 6 (.slice (some ⟨oby,ooy,none⟩) b.ops.length j1)),(.e 7 (.I ((b.ops.length:Nat):Int))),(.e 8 (.I ((k+1:Nat):Int))),(.e 9 (.bool (decide (((k:Nat):Int)<((b.ops.length:Nat):Int))))),(.e 11 (.agg #[.I y.kind,.I y.dst,.I y.a,.I y.b,.I y.n,.I y.ctx,.I y.var,.I y.piece,.I y.sk,.I y.sv,.I y.sa])),(.e 19 (.bool ((y.kind != 21)&&(y.kind != 20))))] [] [] [] [([],(.I (IntKind.i64.wrap (((k:Nat):Int)+1))),(.I ((k+1:Nat):Int)))] hR hM mix (by kernel_rfl) (by kernel_rfl) (by kernel_rfl) (by kernel_rfl) trivial ⟨fun hg=>SX.wrap_ok (by omega),trivial⟩ (fun w' hb' hM'=>trivial) (fun w' hb' hM'=>trivial) ?_
   clear hR hM; intro a44 w45 hR hb46 hM
   replace hB:=hB.tr hb46
   replace hkn31:=SX.blk_below hkn31 hb46
   exact ⟨b.ops.length-(k+1),by omega,k+1,rfl,by omega,hR.keep (ts:=[1,6,7,8]) (by kernel_rfl),hB,SX.cells_sub hM [22,23,24,25,26,27,28,29,30,31] (by kernel_rfl),hIk.step hy (by rw [h39]; rfl)⟩
 ·skip
  refine wp_exit ?_
  refine hK9 _ _ ?_
  refine wp_seq_k fun K47 hK47=>?_
  refine SX.region_q [(4,(b.term.kind==4))] [.ld [],.ld [],.ld [2],.ld [],.ld [],.ld [],.ld [],.ld [3],.ld [],.pk,.ld []] [1,2,6,7,8,9] [(.e 1 (.P n5)),(.e 2 (.bool ((b.term.kind==4)&&(b.term.a==0)))),(.e 6 (.slice B1 b.ops.length j1)),(.e 7 (.I ((b.ops.length:Nat):Int))),(.e 8 (.I ((k:Nat):Int))),(.e 9 (.bool (decide (((k:Nat):Int)<((b.ops.length:Nat):Int)))))] [] [] [] [] hR hM mix (by kernel_rfl) (by kernel_rfl) (by kernel_rfl) (by kernel_rfl) trivial trivial (fun w' hb' hM'=>trivial) (fun w' hb' hM'=>trivial) ?_
  clear hR hM; intro a48 w49 hR hb50 hM
  replace hB:=hB.tr hb50
  refine hK47 _ _ ?_
  refine wp_ret ?_
  try simp only [Exit.then,Exit.inBlock,Nat.reduceEqDiff,↓reduceIte]
  refine SX.ret_ 2 (.bool ((b.term.kind==4)&&(b.term.a==0))) Try.results56 hR (by kernel_rfl) ?_
  clear hR hM mix hK1 hzn5 hb4 hkn5 hln5 hn5 hb8 hK9 hK10 hb13 hm16 hK17 hb20 hK21 hK47 hb50
  refine ⟨ret_bool ?_,hB⟩
  exact retB_yes hIk (le_of_dec h22)

set_option maxHeartbeats 400000 in
theorem isTail_any (c:CodeD) (A1 A2 A3:Option Addr) (k1 k2 k3:Nat) (w:World) (h:CodeAt w (.slice A1 c.blocks.length k1) (.slice A2 c.contexts.length k2) (.slice A3 c.objects.length k3) c) (t:TermD) (C2 C3 C4:Option Addr) (l2 l3 l4:Nat) (hin:(((t.kind != 3)||decide (0≤t.b1))||decide ((0:Int)<(t.args0.length:Int)))=false→0≤t.b0∧t.b0<(c.blocks.length:Int)) (hsh:Shape A1 c.blocks.length k1):Calls Try.prog 50 #[(.agg #[.I c.params,.slice A1 c.blocks.length k1,.slice A2 c.contexts.length k2,.slice A3 c.objects.length k3]),(.agg #[.I t.kind,.I t.a,.I t.n,.slice C2 t.args.length l2,.I t.b0,.slice C3 t.args0.length l3,.I t.b1,.slice C4 t.args1.length l4])] w fun e w'=>e=.returned (.bool (isTailD c t))∧Below w.heap.size w w':=by
 have h0:=h
 unfold Shape at hsh
 have mix:=mixed
 have hB:Below w.heap.size w w:=Below.refl _ _
 have hM:SX.Cells w []:=SX.cells_nil
 refine SX.enter [(.agg #[.I c.params,.slice A1 c.blocks.length k1,.slice A2 c.contexts.length k2,.slice A3 c.objects.length k3]),(.agg #[.I t.kind,.I t.a,.I t.n,.slice C2 t.args.length l2,.I t.b0,.slice C3 t.args0.length l3,.I t.b1,.slice C4 t.args1.length l4])] 60 Try.func50 rfl rfl (by kernel_rfl) ?_
 intro a hR
 refine wp_seq_k fun K1 hK1=>?_
 refine SX.region_l ?_
 obtain ⟨n5,hn5⟩:∃ n,w.heap.size=n:=⟨_,rfl⟩
 have hzn5:w.heap.size≤n5:=by have:=hB.size; omega
 refine SX.list_box 0 n5 [(.I c.params),(.slice A1 c.blocks.length k1),(.slice A2 c.contexts.length k2),(.slice A3 c.objects.length k3)] 26 ((.e 2 (.P n5))::[(.e 0 (.agg #[.I c.params,.slice A1 c.blocks.length k1,.slice A2 c.contexts.length k2,.slice A3 c.objects.length k3])),(.e 1 (.agg #[.I t.kind,.I t.a,.I t.n,.slice C2 t.args.length l2,.I t.b0,.slice C3 t.args0.length l3,.I t.b1,.slice C4 t.args1.length l4]))]) [(⟨n5,0,none⟩,(.I c.params)),(⟨n5,1,none⟩,(.slice A1 c.blocks.length k1)),(⟨n5,2,none⟩,(.slice A2 c.contexts.length k2)),(⟨n5,3,none⟩,(.slice A3 c.objects.length k3))] hR hM hn5 (by kernel_rfl) (by kernel_rfl) ?_
 clear hR hM; intro a2 w3 hR hb4 hM hkn5 hln5
 replace hB:=hB.tr hb4
 replace hR:SX.RSt 60 [] [(.e 1 (.agg #[.I t.kind,.I t.a,.I t.n,.slice C2 t.args.length l2,.I t.b0,.slice C3 t.args0.length l3,.I t.b1,.slice C4 t.args1.length l4])),(.e 2 (.P n5))] a2:=hR.keep (ts:=[1,2]) (by kernel_rfl)
 obtain ⟨n9,hn9⟩:∃ n,w3.heap.size=n:=⟨_,rfl⟩
 have hzn9:w.heap.size≤n9:=by have:=hB.size; omega
 have qn5n9:n5<n9:=by have:=(Array.getElem?_eq_some_iff.1 hkn5).1; omega
 refine SX.list_box 1 n9 [(.I t.kind),(.I t.a),(.I t.n),(.slice C2 t.args.length l2),(.I t.b0),(.slice C3 t.args0.length l3),(.I t.b1),(.slice C4 t.args1.length l4)] 60 ((.e 3 (.P n9))::[(.e 1 (.agg #[.I t.kind,.I t.a,.I t.n,.slice C2 t.args.length l2,.I t.b0,.slice C3 t.args0.length l3,.I t.b1,.slice C4 t.args1.length l4])),(.e 2 (.P n5))]) [(⟨n9,0,none⟩,(.I t.kind)),(⟨n9,1,none⟩,(.I t.a)),(⟨n9,2,none⟩,(.I t.n)),(⟨n9,3,none⟩,(.slice C2 t.args.length l2)),(⟨n9,4,none⟩,(.I t.b0)),(⟨n9,5,none⟩,(.slice C3 t.args0.length l3)),(⟨n9,6,none⟩,(.I t.b1)),(⟨n9,7,none⟩,(.slice C4 t.args1.length l4)),(⟨n5,0,none⟩,(.I c.params)),(⟨n5,1,none⟩,(.slice A1 c.blocks.length k1)),(⟨n5,2,none⟩,(.slice A2 c.contexts.length k2)),(⟨n5,3,none⟩,(.slice A3 c.objects.length k3))] hR hM hn9 (by kernel_rfl) (by kernel_rfl) ?_
 clear hR hM; intro a6 w7 hR hb8 hM hkn9 hln9
 replace hB:=hB.tr hb8
 replace hkn5:=SX.blk_below hkn5 hb8
 replace hR:SX.RSt 60 [] [(.e 2 (.P n5)),(.e 3 (.P n9))] a6:=hR.keep (ts:=[2,3]) (by kernel_rfl)
 refine SX.list_q0 (κ:=[]) 2 1 [.ld []] [2,3,4] [(.e 2 (.P n5)),(.e 3 (.P n9)),(.e 4 (.bool false))] hR hM (by kernel_rfl) (by kernel_rfl) ?_
 clear hR hM; intro a10 w11 hR hb12 hM
 replace hB:=hB.tr hb12
 replace hkn5:=SX.blk_below hkn5 hb12
 replace hkn9:=SX.blk_below hkn9 hb12
 refine SX.list_end 3 (by kernel_rfl) ?_
 refine hK1 _ _ ?_
 refine wp_seq_k fun K13 hK13=>?_
 refine wp_seq_k fun K14 hK14=>?_
 refine SX.region_q [(3,(t.kind != 3)),(10,((t.kind != 3)||decide (0≤t.b1)))] [.ld [],.ld [0],.ld [],.ld [],.ld [],.ld [],.ld [],.ld [6],.ld [],.pk,.ld [],.ld [],.ld [],.ld [],.ld [5],.ld [],.ld [],.pk] [2,3,4,25] [(.e 2 (.P n5)),(.e 3 (.P n9)),(.e 4 (.bool false)),(.e 25 (.bool (((t.kind != 3)||decide (0≤t.b1))||decide (0<((t.args0.length:Nat):Int)))))] [] [] [] [] hR hM mix (by kernel_rfl) (by kernel_rfl) (by kernel_rfl) (by kernel_rfl) trivial trivial (fun w' hb' hM'=>trivial) (fun w' hb' hM'=>trivial) ?_
 clear hR hM; intro a15 w16 hR hb17 hM
 replace hB:=hB.tr hb17
 replace hkn5:=SX.blk_below hkn5 hb17
 replace hkn9:=SX.blk_below hkn9 hb17
 refine hK14 _ _ ?_
 refine SX.cond_ (((t.kind != 3)||decide (0≤t.b1))||decide (0<((t.args0.length:Nat):Int))) hR (by kernel_rfl) (fun h18=>?_) (fun h18=>?_)
 ·skip
  refine wp_seq_k fun K19 hK19=>?_
  refine SX.region_q0 [.ld []] [2,3,4,25] [(.e 2 (.P n5)),(.e 3 (.P n9)),(.e 4 (.bool false)),(.e 25 (.bool (((t.kind != 3)||decide (0≤t.b1))||decide (0<((t.args0.length:Nat):Int)))))] hR hM mix (by kernel_rfl) (by kernel_rfl) (by kernel_rfl) (by kernel_rfl) ?_
  clear hR hM; intro a20 w21 hR hb22 hM
  replace hB:=hB.tr hb22
  replace hkn5:=SX.blk_below hkn5 hb22
  replace hkn9:=SX.blk_below hkn9 hb22
  refine hK19 _ _ ?_
  refine wp_ret ?_
  try simp only [Exit.then,Exit.inBlock,Nat.reduceEqDiff,↓reduceIte]
  refine SX.ret_ 4 (.bool false) Try.results50 hR (by kernel_rfl) ?_
  clear hR hM mix hK1 hzn5 hb4 hkn5 hln5 hn5 hzn9 qn5n9 hb8 hkn9 hln9 hn9 hb12 hK13 hK14 hb17 hK19 hb22
  refine ⟨ret_bool ?_,hB⟩
  unfold isTailD
  simp only [h18,Bool.false_eq_true,↓reduceIte]
 ·skip
  refine wp_skip ?_
  refine hK13 _ _ ?_
  refine wp_seq_k fun K23 hK23=>?_
  obtain ⟨x,hx⟩:=get_of_lt (l:=c.blocks) (k:=t.b0.toNat) (by have:=hin h18; omega)
  obtain ⟨bbx,box,hAx,B1x,j1x,B2x,j2x,B3x,j3x,B4x,j4x,hsx,hblx,cb0x,cb1x,cb2x,cb3x,cb4x,cb5x,cb6x,cb7x,cb8x,cb9x⟩:=h0.2.1.elem hx
  subst hAx; unfold Shape at hsx
  have hox:bbx<w.heap.size:=World.block_lt_of_cell? w _ cb0x
  replace hM:=(SX.cells_add (cell_below hB cb0x) (SX.cells_add (cell_below hB cb1x) (SX.cells_add (cell_below hB cb2x) (SX.cells_add (cell_below hB cb3x) (SX.cells_add (cell_below hB cb4x) (SX.cells_add (cell_below hB cb5x) (SX.cells_add (cell_below hB cb6x) (SX.cells_add (cell_below hB cb7x) (SX.cells_add (cell_below hB cb8x) (SX.cells_add (cell_below hB cb9x) hM))))))))))
  refine SX.region_l ?_
  refine SX.list_q (κ:=[]) 0 8 [.ld [],.ld [19],.ld [],.ld [],.ld [],.ld [14],.ix ⟨bbx,box+t.b0.toNat*10,none⟩,.ld [0,1,2,3,4,5,6,7,8,9]] [3,4,25,33] [(.e 3 (.P n9)),(.e 4 (.bool false)),(.e 25 (.bool (((t.kind != 3)||decide (0≤t.b1))||decide (0<((t.args0.length:Nat):Int))))),(.e 33 (.agg #[.I x.params,.slice B1x x.ops.length j1x,.I x.term.kind,.I x.term.a,.I x.term.n,.slice B2x x.term.args.length j2x,.I x.term.b0,.slice B3x x.term.args0.length j3x,.I x.term.b1,.slice B4x x.term.args1.length j4x]))] [([],⟨bbx,box,none⟩,c.blocks.length,t.b0,10,⟨bbx,box+t.b0.toNat*10,none⟩)] [] [] [] hR hM (by kernel_rfl) (by kernel_rfl) ⟨fun hg=>ix_int (hin h18).1 (hin h18).2,trivial⟩ trivial (fun w' hb' hM'=>trivial) (fun w' hb' hM'=>trivial) ?_
  clear hR hM; intro a24 w25 hR hb26 hM
  replace hB:=hB.tr hb26
  replace hkn5:=SX.blk_below hkn5 hb26
  replace hkn9:=SX.blk_below hkn9 hb26
  obtain ⟨n30,hn30⟩:∃ n,w25.heap.size=n:=⟨_,rfl⟩
  have hzn30:w.heap.size≤n30:=by have:=hB.size; omega
  have qn5n30:n5<n30:=by have:=(Array.getElem?_eq_some_iff.1 hkn5).1; omega
  have qn9n30:n9<n30:=by have:=(Array.getElem?_eq_some_iff.1 hkn9).1; omega
  refine SX.list_alloc 8 n30 [(.I 0),(.slice none 0 0),(.I 0),(.I 0),(.I 0),(.slice none 0 0),(.I 0),(.slice none 0 0),(.I 0),(.slice none 0 0)] 62 ((.e 5 (.P n30))::[(.e 3 (.P n9)),(.e 4 (.bool false)),(.e 25 (.bool (((t.kind != 3)||decide (0≤t.b1))||decide (0<((t.args0.length:Nat):Int))))),(.e 33 (.agg #[.I x.params,.slice B1x x.ops.length j1x,.I x.term.kind,.I x.term.a,.I x.term.n,.slice B2x x.term.args.length j2x,.I x.term.b0,.slice B3x x.term.args0.length j3x,.I x.term.b1,.slice B4x x.term.args1.length j4x]))]) hR hM hn30 (by kernel_rfl) ?_
  clear hR hM; intro a27 w28 hR hb29 hM hkn30 hln30 hnen30
  replace hB:=hB.tr hb29
  replace hkn5:=SX.blk_below hkn5 hb29
  replace hkn9:=SX.blk_below hkn9 hb29
  replace hR:SX.RSt 60 [] [(.e 3 (.P n9)),(.e 4 (.bool false)),(.e 5 (.P n30)),(.e 25 (.bool (((t.kind != 3)||decide (0≤t.b1))||decide (0<((t.args0.length:Nat):Int))))),(.e 33 (.agg #[.I x.params,.slice B1x x.ops.length j1x,.I x.term.kind,.I x.term.a,.I x.term.n,.slice B2x x.term.args.length j2x,.I x.term.b0,.slice B3x x.term.args0.length j3x,.I x.term.b1,.slice B4x x.term.args1.length j4x]))] a27:=hR.keep (ts:=[3,4,5,25,33]) (by kernel_rfl)
  refine SX.list_store 9 [(0,(.I x.params)),(1,(.slice B1x x.ops.length j1x)),(2,(.I x.term.kind)),(3,(.I x.term.a)),(4,(.I x.term.n)),(5,(.slice B2x x.term.args.length j2x)),(6,(.I x.term.b0)),(7,(.slice B3x x.term.args0.length j3x)),(8,(.I x.term.b1)),(9,(.slice B4x x.term.args1.length j4x))] [(.I x.params),(.slice B1x x.ops.length j1x),(.I x.term.kind),(.I x.term.a),(.I x.term.n),(.slice B2x x.term.args.length j2x),(.I x.term.b0),(.slice B3x x.term.args0.length j3x),(.I x.term.b1),(.slice B4x x.term.args1.length j4x)] [(⟨bbx,box+t.b0.toNat*10,none⟩,(.I x.params)),(⟨bbx,box+t.b0.toNat*10+1,none⟩,(.slice B1x x.ops.length j1x)),(⟨bbx,box+t.b0.toNat*10+2,none⟩,(.I x.term.kind)),(⟨bbx,box+t.b0.toNat*10+3,none⟩,(.I x.term.a)),(⟨bbx,box+t.b0.toNat*10+4,none⟩,(.I x.term.n)),(⟨bbx,box+t.b0.toNat*10+5,none⟩,(.slice B2x x.term.args.length j2x)),(⟨bbx,box+t.b0.toNat*10+6,none⟩,(.I x.term.b0)),(⟨bbx,box+t.b0.toNat*10+7,none⟩,(.slice B3x x.term.args0.length j3x)),(⟨bbx,box+t.b0.toNat*10+8,none⟩,(.I x.term.b1)),(⟨bbx,box+t.b0.toNat*10+9,none⟩,(.slice B4x x.term.args1.length j4x)),(⟨n9,0,none⟩,(.I t.kind)),(⟨n9,1,none⟩,(.I t.a)),(⟨n9,2,none⟩,(.I t.n)),(⟨n9,3,none⟩,(.slice C2 t.args.length l2)),(⟨n9,4,none⟩,(.I t.b0)),(⟨n9,5,none⟩,(.slice C3 t.args0.length l3)),(⟨n9,6,none⟩,(.I t.b1)),(⟨n9,7,none⟩,(.slice C4 t.args1.length l4)),(⟨n5,0,none⟩,(.I c.params)),(⟨n5,1,none⟩,(.slice (some ⟨bbx,box,none⟩) c.blocks.length k1)),(⟨n5,2,none⟩,(.slice A2 c.contexts.length k2)),(⟨n5,3,none⟩,(.slice A3 c.objects.length k3))] [(⟨n30,0,none⟩,(.I x.params)),(⟨n30,1,none⟩,(.slice B1x x.ops.length j1x)),(⟨n30,2,none⟩,(.I x.term.kind)),(⟨n30,3,none⟩,(.I x.term.a)),(⟨n30,4,none⟩,(.I x.term.n)),(⟨n30,5,none⟩,(.slice B2x x.term.args.length j2x)),(⟨n30,6,none⟩,(.I x.term.b0)),(⟨n30,7,none⟩,(.slice B3x x.term.args0.length j3x)),(⟨n30,8,none⟩,(.I x.term.b1)),(⟨n30,9,none⟩,(.slice B4x x.term.args1.length j4x)),(⟨bbx,box+t.b0.toNat*10,none⟩,(.I x.params)),(⟨bbx,box+t.b0.toNat*10+1,none⟩,(.slice B1x x.ops.length j1x)),(⟨bbx,box+t.b0.toNat*10+2,none⟩,(.I x.term.kind)),(⟨bbx,box+t.b0.toNat*10+3,none⟩,(.I x.term.a)),(⟨bbx,box+t.b0.toNat*10+4,none⟩,(.I x.term.n)),(⟨bbx,box+t.b0.toNat*10+5,none⟩,(.slice B2x x.term.args.length j2x)),(⟨bbx,box+t.b0.toNat*10+6,none⟩,(.I x.term.b0)),(⟨bbx,box+t.b0.toNat*10+7,none⟩,(.slice B3x x.term.args0.length j3x)),(⟨bbx,box+t.b0.toNat*10+8,none⟩,(.I x.term.b1)),(⟨bbx,box+t.b0.toNat*10+9,none⟩,(.slice B4x x.term.args1.length j4x)),(⟨n9,0,none⟩,(.I t.kind)),(⟨n9,1,none⟩,(.I t.a)),(⟨n9,2,none⟩,(.I t.n)),(⟨n9,3,none⟩,(.slice C2 t.args.length l2)),(⟨n9,4,none⟩,(.I t.b0)),(⟨n9,5,none⟩,(.slice C3 t.args0.length l3)),(⟨n9,6,none⟩,(.I t.b1)),(⟨n9,7,none⟩,(.slice C4 t.args1.length l4)),(⟨n5,0,none⟩,(.I c.params)),(⟨n5,1,none⟩,(.slice (some ⟨bbx,box,none⟩) c.blocks.length k1)),(⟨n5,2,none⟩,(.slice A2 c.contexts.length k2)),(⟨n5,3,none⟩,(.slice A3 c.objects.length k3))] hR (SX.cells_sub hM [0,1,2,3,4,5,6,7,8,9,10,11,12,13,14,15,16,17,18,19,20,21] (by kernel_rfl)) hnen30 hkn30 (by kernel_rfl) (by kernel_rfl) (by kernel_rfl) ?_
  clear hR hM hkn30; intro a31 w32 hR hb33 hM hkn30
  replace hB:=hB.trans (hb33.below (by omega))
  replace hkn5:=(hb33.block _ (by omega)).trans hkn5
  replace hkn9:=(hb33.block _ (by omega)).trans hkn9
  refine SX.list_end 10 (by kernel_rfl) ?_
  refine hK23 _ _ ?_
  refine wp_seq_k fun K34 hK34=>?_
  refine wp_seq_k fun K35 hK35=>?_
  refine SX.region_q0 [.ld [],.ld [1],.ld [],.ld []] [3,4,5,25,33,35,36,37] [(.e 3 (.P n9)),(.e 4 (.bool false)),(.e 5 (.P n30)),(.e 25 (.bool (((t.kind != 3)||decide (0≤t.b1))||decide (0<((t.args0.length:Nat):Int))))),(.e 33 (.agg #[.I x.params,.slice B1x x.ops.length j1x,.I x.term.kind,.I x.term.a,.I x.term.n,.slice B2x x.term.args.length j2x,.I x.term.b0,.slice B3x x.term.args0.length j3x,.I x.term.b1,.slice B4x x.term.args1.length j4x])),(.e 35 (.slice B1x x.ops.length j1x)),(.e 36 (.I ((x.ops.length:Nat):Int))),(.e 37 (.I 0))] hR hM mix (by kernel_rfl) (by kernel_rfl) (by kernel_rfl) (by kernel_rfl) ?_
  clear hR hM; intro a36 w37 hR hb38 hM
  replace hB:=hB.tr hb38
  replace hkn5:=SX.blk_below hkn5 hb38
  replace hkn9:=SX.blk_below hkn9 hb38
  replace hkn30:=SX.blk_below hkn30 hb38
  refine hK35 _ _ ?_
  refine wp_block ?_
  refine wp_loop_ghost (fun m41 a' w'=>∃ k:Nat,m41=x.ops.length-k∧k≤x.ops.length∧SX.RSt 60 [] [(.e 3 (.P n9)),(.e 5 (.P n30)),(.e 25 (.bool (((t.kind != 3)||decide (0≤t.b1))||decide (0<((t.args0.length:Nat):Int))))),(.e 33 (.agg #[.I x.params,.slice B1x x.ops.length j1x,.I x.term.kind,.I x.term.a,.I x.term.n,.slice B2x x.term.args.length j2x,.I x.term.b0,.slice B3x x.term.args0.length j3x,.I x.term.b1,.slice B4x x.term.args1.length j4x])),(.e 35 (.slice B1x x.ops.length j1x)),(.e 36 (.I ((x.ops.length:Nat):Int))),(.e 37 (.I ((k:Nat):Int)))] a'∧Below w.heap.size w w'∧SX.Cells w' [(⟨n30,0,none⟩,(.I x.params)),(⟨n30,1,none⟩,(.slice B1x x.ops.length j1x)),(⟨n30,2,none⟩,(.I x.term.kind)),(⟨n30,3,none⟩,(.I x.term.a)),(⟨n30,4,none⟩,(.I x.term.n)),(⟨n30,5,none⟩,(.slice B2x x.term.args.length j2x)),(⟨n30,6,none⟩,(.I x.term.b0)),(⟨n30,7,none⟩,(.slice B3x x.term.args0.length j3x)),(⟨n30,8,none⟩,(.I x.term.b1)),(⟨n30,9,none⟩,(.slice B4x x.term.args1.length j4x)),(⟨bbx,box+t.b0.toNat*10,none⟩,(.I x.params)),(⟨bbx,box+t.b0.toNat*10+1,none⟩,(.slice B1x x.ops.length j1x)),(⟨bbx,box+t.b0.toNat*10+2,none⟩,(.I x.term.kind)),(⟨bbx,box+t.b0.toNat*10+3,none⟩,(.I x.term.a)),(⟨bbx,box+t.b0.toNat*10+4,none⟩,(.I x.term.n)),(⟨bbx,box+t.b0.toNat*10+5,none⟩,(.slice B2x x.term.args.length j2x)),(⟨bbx,box+t.b0.toNat*10+6,none⟩,(.I x.term.b0)),(⟨bbx,box+t.b0.toNat*10+7,none⟩,(.slice B3x x.term.args0.length j3x)),(⟨bbx,box+t.b0.toNat*10+8,none⟩,(.I x.term.b1)),(⟨bbx,box+t.b0.toNat*10+9,none⟩,(.slice B4x x.term.args1.length j4x)),(⟨n9,0,none⟩,(.I t.kind)),(⟨n9,1,none⟩,(.I t.a)),(⟨n9,2,none⟩,(.I t.n)),(⟨n9,3,none⟩,(.slice C2 t.args.length l2)),(⟨n9,4,none⟩,(.I t.b0)),(⟨n9,5,none⟩,(.slice C3 t.args0.length l3)),(⟨n9,6,none⟩,(.I t.b1)),(⟨n9,7,none⟩,(.slice C4 t.args1.length l4)),(⟨n5,0,none⟩,(.I c.params)),(⟨n5,1,none⟩,(.slice (some ⟨bbx,box,none⟩) c.blocks.length k1)),(⟨n5,2,none⟩,(.slice A2 c.contexts.length k2)),(⟨n5,3,none⟩,(.slice A3 c.objects.length k3))]∧Upto x.ops (fun _ o=>!(o.kind != 21&&o.kind != 20)) k) (x.ops.length-0) ⟨0,rfl,Nat.zero_le _,hR.keep (ts:=[3,5,25,33,35,36,37]) (by kernel_rfl),hB,hM,Upto.zero⟩ ?_
  clear hR hM hB
  rintro m41 a39 w40 ⟨k,hm41,hlek,hR,hB,hM,hIk⟩
  refine wp_seq_k fun K42 hK42=>?_
  refine SX.region_q0 [.ld []] [3,5,25,33,35,36,37,38] [(.e 3 (.P n9)),(.e 5 (.P n30)),(.e 25 (.bool (((t.kind != 3)||decide (0≤t.b1))||decide (0<((t.args0.length:Nat):Int))))),(.e 33 (.agg #[.I x.params,.slice B1x x.ops.length j1x,.I x.term.kind,.I x.term.a,.I x.term.n,.slice B2x x.term.args.length j2x,.I x.term.b0,.slice B3x x.term.args0.length j3x,.I x.term.b1,.slice B4x x.term.args1.length j4x])),(.e 35 (.slice B1x x.ops.length j1x)),(.e 36 (.I ((x.ops.length:Nat):Int))),(.e 37 (.I ((k:Nat):Int))),(.e 38 (.bool (decide (((k:Nat):Int)<((x.ops.length:Nat):Int)))))] hR hM mix (by kernel_rfl) (by kernel_rfl) (by kernel_rfl) (by kernel_rfl) ?_
  clear hR hM; intro a43 w44 hR hb45 hM
  replace hB:=hB.tr hb45
  refine hK42 _ _ ?_
  refine wp_seq_k fun K46 hK46=>?_
  refine SX.cond_ (decide (((k:Nat):Int)<((x.ops.length:Nat):Int))) hR (by kernel_rfl) (fun h47=>?_) (fun h47=>?_)
  ·skip
   refine wp_skip ?_
   refine hK46 _ _ ?_
   refine wp_seq_k fun K48 hK48=>?_
   refine wp_block ?_
   refine wp_seq_k fun K49 hK49=>?_
   have hlty:k<x.ops.length:=lt_of_dec h47
   obtain ⟨y,hy⟩:=get_of_lt hlty
   obtain ⟨oby,ooy,hAy,hiy,co0y,co1y,co2y,co3y,co4y,co5y,co6y,co7y,co8y,co9y,co10y⟩:=hblx.2.1.elem hy
   subst hAy
   have hoy:oby<w.heap.size:=World.block_lt_of_cell? w _ co0y
   replace hM:=(SX.cells_add (cell_below hB co0y) (SX.cells_add (cell_below hB co1y) (SX.cells_add (cell_below hB co2y) (SX.cells_add (cell_below hB co3y) (SX.cells_add (cell_below hB co4y) (SX.cells_add (cell_below hB co5y) (SX.cells_add (cell_below hB co6y) (SX.cells_add (cell_below hB co7y) (SX.cells_add (cell_below hB co8y) (SX.cells_add (cell_below hB co9y) (SX.cells_add (cell_below hB co10y) hM)))))))))))
   refine SX.region_l ?_
   refine SX.list_q (κ:=[]) 0 2 [.ix ⟨oby,ooy+k*11,none⟩,.ld [0,1,2,3,4,5,6,7,8,9,10]] [3,5,25,33,35,36,37,38,40] [(.e 3 (.P n9)),(.e 5 (.P n30)),(.e 25 (.bool (((t.kind != 3)||decide (0≤t.b1))||decide (0<((t.args0.length:Nat):Int))))),(.e 33 (.agg #[.I x.params,.slice (some ⟨oby,ooy,none⟩) x.ops.length j1x,.I x.term.kind,.I x.term.a,.I x.term.n,.slice B2x x.term.args.length j2x,.I x.term.b0,.slice B3x x.term.args0.length j3x,.I x.term.b1,.slice B4x x.term.args1.length j4x])),(.e 35 (.slice (some ⟨oby,ooy,none⟩) x.ops.length j1x)),(.e 36 (.I ((x.ops.length:Nat):Int))),(.e 37 (.I ((k:Nat):Int))),(.e 38 (.bool (decide (((k:Nat):Int)<((x.ops.length:Nat):Int))))),(.e 40 (.agg #[.I y.kind,.I y.dst,.I y.a,.I y.b,.I y.n,.I y.ctx,.I y.var,.I y.piece,.I y.sk,.I y.sv,.I y.sa]))] [([],⟨oby,ooy,none⟩,x.ops.length,((k:Nat):Int),11,⟨oby,ooy+k*11,none⟩)] [] [] [] hR hM (by kernel_rfl) (by kernel_rfl) ⟨fun hg=>SX.ix_ok (by omega),trivial⟩ trivial (fun w' hb' hM'=>trivial) (fun w' hb' hM'=>trivial) ?_
   clear hR hM; intro a50 w51 hR hb52 hM
   replace hB:=hB.tr hb52
   obtain ⟨n56,hn56⟩:∃ n,w51.heap.size=n:=⟨_,rfl⟩
   have hzn56:w.heap.size≤n56:=by have:=hB.size; omega
   refine SX.list_alloc 2 n56 [(.I 0),(.I 0),(.I 0),(.I 0),(.I 0),(.I 0),(.I 0),(.I 0),(.I 0),(.I 0),(.I 0)] 74 ((.e 7 (.P n56))::[(.e 3 (.P n9)),(.e 5 (.P n30)),(.e 25 (.bool (((t.kind != 3)||decide (0≤t.b1))||decide (0<((t.args0.length:Nat):Int))))),(.e 33 (.agg #[.I x.params,.slice (some ⟨oby,ooy,none⟩) x.ops.length j1x,.I x.term.kind,.I x.term.a,.I x.term.n,.slice B2x x.term.args.length j2x,.I x.term.b0,.slice B3x x.term.args0.length j3x,.I x.term.b1,.slice B4x x.term.args1.length j4x])),(.e 35 (.slice (some ⟨oby,ooy,none⟩) x.ops.length j1x)),(.e 36 (.I ((x.ops.length:Nat):Int))),(.e 37 (.I ((k:Nat):Int))),(.e 38 (.bool (decide (((k:Nat):Int)<((x.ops.length:Nat):Int))))),(.e 40 (.agg #[.I y.kind,.I y.dst,.I y.a,.I y.b,.I y.n,.I y.ctx,.I y.var,.I y.piece,.I y.sk,.I y.sv,.I y.sa]))]) hR hM hn56 (by kernel_rfl) ?_
   clear hR hM; intro a53 w54 hR hb55 hM hkn56 hln56 hnen56
   replace hB:=hB.tr hb55
   replace hR:SX.RSt 60 [] [(.e 3 (.P n9)),(.e 5 (.P n30)),(.e 7 (.P n56)),(.e 25 (.bool (((t.kind != 3)||decide (0≤t.b1))||decide (0<((t.args0.length:Nat):Int))))),(.e 33 (.agg #[.I x.params,.slice (some ⟨oby,ooy,none⟩) x.ops.length j1x,.I x.term.kind,.I x.term.a,.I x.term.n,.slice B2x x.term.args.length j2x,.I x.term.b0,.slice B3x x.term.args0.length j3x,.I x.term.b1,.slice B4x x.term.args1.length j4x])),(.e 35 (.slice (some ⟨oby,ooy,none⟩) x.ops.length j1x)),(.e 36 (.I ((x.ops.length:Nat):Int))),(.e 37 (.I ((k:Nat):Int))),(.e 38 (.bool (decide (((k:Nat):Int)<((x.ops.length:Nat):Int))))),(.e 40 (.agg #[.I y.kind,.I y.dst,.I y.a,.I y.b,.I y.n,.I y.ctx,.I y.var,.I y.piece,.I y.sk,.I y.sv,.I y.sa]))] a53:=hR.keep (ts:=[3,5,7,25,33,35,36,37,38,40]) (by kernel_rfl)
   refine SX.list_store 3 [(0,(.I y.kind)),(1,(.I y.dst)),(2,(.I y.a)),(3,(.I y.b)),(4,(.I y.n)),(5,(.I y.ctx)),(6,(.I y.var)),(7,(.I y.piece)),(8,(.I y.sk)),(9,(.I y.sv)),(10,(.I y.sa))] [(.I y.kind),(.I y.dst),(.I y.a),(.I y.b),(.I y.n),(.I y.ctx),(.I y.var),(.I y.piece),(.I y.sk),(.I y.sv),(.I y.sa)] [(⟨oby,ooy+k*11,none⟩,(.I y.kind)),(⟨oby,ooy+k*11+1,none⟩,(.I y.dst)),(⟨oby,ooy+k*11+2,none⟩,(.I y.a)),(⟨oby,ooy+k*11+3,none⟩,(.I y.b)),(⟨oby,ooy+k*11+4,none⟩,(.I y.n)),(⟨oby,ooy+k*11+5,none⟩,(.I y.ctx)),(⟨oby,ooy+k*11+6,none⟩,(.I y.var)),(⟨oby,ooy+k*11+7,none⟩,(.I y.piece)),(⟨oby,ooy+k*11+8,none⟩,(.I y.sk)),(⟨oby,ooy+k*11+9,none⟩,(.I y.sv)),(⟨oby,ooy+k*11+10,none⟩,(.I y.sa)),(⟨n30,0,none⟩,(.I x.params)),(⟨n30,1,none⟩,(.slice (some ⟨oby,ooy,none⟩) x.ops.length j1x)),(⟨n30,2,none⟩,(.I x.term.kind)),(⟨n30,3,none⟩,(.I x.term.a)),(⟨n30,4,none⟩,(.I x.term.n)),(⟨n30,5,none⟩,(.slice B2x x.term.args.length j2x)),(⟨n30,6,none⟩,(.I x.term.b0)),(⟨n30,7,none⟩,(.slice B3x x.term.args0.length j3x)),(⟨n30,8,none⟩,(.I x.term.b1)),(⟨n30,9,none⟩,(.slice B4x x.term.args1.length j4x)),(⟨bbx,box+t.b0.toNat*10,none⟩,(.I x.params)),(⟨bbx,box+t.b0.toNat*10+1,none⟩,(.slice (some ⟨oby,ooy,none⟩) x.ops.length j1x)),(⟨bbx,box+t.b0.toNat*10+2,none⟩,(.I x.term.kind)),(⟨bbx,box+t.b0.toNat*10+3,none⟩,(.I x.term.a)),(⟨bbx,box+t.b0.toNat*10+4,none⟩,(.I x.term.n)),(⟨bbx,box+t.b0.toNat*10+5,none⟩,(.slice B2x x.term.args.length j2x)),(⟨bbx,box+t.b0.toNat*10+6,none⟩,(.I x.term.b0)),(⟨bbx,box+t.b0.toNat*10+7,none⟩,(.slice B3x x.term.args0.length j3x)),(⟨bbx,box+t.b0.toNat*10+8,none⟩,(.I x.term.b1)),(⟨bbx,box+t.b0.toNat*10+9,none⟩,(.slice B4x x.term.args1.length j4x)),(⟨n9,0,none⟩,(.I t.kind)),(⟨n9,1,none⟩,(.I t.a)),(⟨n9,2,none⟩,(.I t.n)),(⟨n9,3,none⟩,(.slice C2 t.args.length l2)),(⟨n9,4,none⟩,(.I t.b0)),(⟨n9,5,none⟩,(.slice C3 t.args0.length l3)),(⟨n9,6,none⟩,(.I t.b1)),(⟨n9,7,none⟩,(.slice C4 t.args1.length l4)),(⟨n5,0,none⟩,(.I c.params)),(⟨n5,1,none⟩,(.slice (some ⟨bbx,box,none⟩) c.blocks.length k1)),(⟨n5,2,none⟩,(.slice A2 c.contexts.length k2)),(⟨n5,3,none⟩,(.slice A3 c.objects.length k3))] [(⟨n56,0,none⟩,(.I y.kind)),(⟨n56,1,none⟩,(.I y.dst)),(⟨n56,2,none⟩,(.I y.a)),(⟨n56,3,none⟩,(.I y.b)),(⟨n56,4,none⟩,(.I y.n)),(⟨n56,5,none⟩,(.I y.ctx)),(⟨n56,6,none⟩,(.I y.var)),(⟨n56,7,none⟩,(.I y.piece)),(⟨n56,8,none⟩,(.I y.sk)),(⟨n56,9,none⟩,(.I y.sv)),(⟨n56,10,none⟩,(.I y.sa)),(⟨oby,ooy+k*11,none⟩,(.I y.kind)),(⟨oby,ooy+k*11+1,none⟩,(.I y.dst)),(⟨oby,ooy+k*11+2,none⟩,(.I y.a)),(⟨oby,ooy+k*11+3,none⟩,(.I y.b)),(⟨oby,ooy+k*11+4,none⟩,(.I y.n)),(⟨oby,ooy+k*11+5,none⟩,(.I y.ctx)),(⟨oby,ooy+k*11+6,none⟩,(.I y.var)),(⟨oby,ooy+k*11+7,none⟩,(.I y.piece)),(⟨oby,ooy+k*11+8,none⟩,(.I y.sk)),(⟨oby,ooy+k*11+9,none⟩,(.I y.sv)),(⟨oby,ooy+k*11+10,none⟩,(.I y.sa)),(⟨n30,0,none⟩,(.I x.params)),(⟨n30,1,none⟩,(.slice (some ⟨oby,ooy,none⟩) x.ops.length j1x)),(⟨n30,2,none⟩,(.I x.term.kind)),(⟨n30,3,none⟩,(.I x.term.a)),(⟨n30,4,none⟩,(.I x.term.n)),(⟨n30,5,none⟩,(.slice B2x x.term.args.length j2x)),(⟨n30,6,none⟩,(.I x.term.b0)),(⟨n30,7,none⟩,(.slice B3x x.term.args0.length j3x)),(⟨n30,8,none⟩,(.I x.term.b1)),(⟨n30,9,none⟩,(.slice B4x x.term.args1.length j4x)),(⟨bbx,box+t.b0.toNat*10,none⟩,(.I x.params)),(⟨bbx,box+t.b0.toNat*10+1,none⟩,(.slice (some ⟨oby,ooy,none⟩) x.ops.length j1x)),(⟨bbx,box+t.b0.toNat*10+2,none⟩,(.I x.term.kind)),(⟨bbx,box+t.b0.toNat*10+3,none⟩,(.I x.term.a)),(⟨bbx,box+t.b0.toNat*10+4,none⟩,(.I x.term.n)),(⟨bbx,box+t.b0.toNat*10+5,none⟩,(.slice B2x x.term.args.length j2x)),(⟨bbx,box+t.b0.toNat*10+6,none⟩,(.I x.term.b0)),(⟨bbx,box+t.b0.toNat*10+7,none⟩,(.slice B3x x.term.args0.length j3x)),(⟨bbx,box+t.b0.toNat*10+8,none⟩,(.I x.term.b1)),(⟨bbx,box+t.b0.toNat*10+9,none⟩,(.slice B4x x.term.args1.length j4x)),(⟨n9,0,none⟩,(.I t.kind)),(⟨n9,1,none⟩,(.I t.a)),(⟨n9,2,none⟩,(.I t.n)),(⟨n9,3,none⟩,(.slice C2 t.args.length l2)),(⟨n9,4,none⟩,(.I t.b0)),(⟨n9,5,none⟩,(.slice C3 t.args0.length l3)),(⟨n9,6,none⟩,(.I t.b1)),(⟨n9,7,none⟩,(.slice C4 t.args1.length l4)),(⟨n5,0,none⟩,(.I c.params)),(⟨n5,1,none⟩,(.slice (some ⟨bbx,box,none⟩) c.blocks.length k1)),(⟨n5,2,none⟩,(.slice A2 c.contexts.length k2)),(⟨n5,3,none⟩,(.slice A3 c.objects.length k3))] hR (SX.cells_sub hM [0,1,2,3,4,5,6,7,8,9,10,11,12,13,14,15,16,17,18,19,20,21,22,23,24,25,26,27,28,29,30,31,32,33,34,35,36,37,38,39,40,41,42] (by kernel_rfl)) hnen56 hkn56 (by kernel_rfl) (by kernel_rfl) (by kernel_rfl) ?_
   clear hR hM hkn56; intro a57 w58 hR hb59 hM hkn56
   replace hB:=hB.trans (hb59.below (by omega))
   refine SX.list_end 4 (by kernel_rfl) ?_
   refine hK49 _ _ ?_
   refine wp_seq_k fun K60 hK60=>?_
   refine SX.region_q [(3,(y.kind != 21))] [.ld [],.ld [0],.ld [],.ld [],.ld [],.ld [0],.ld [],.pk] [3,5,7,25,33,35,36,37,38,40,48] [(.e 3 (.P n9)),(.e 5 (.P n30)),(.e 7 (.P n56)),(.e 25 (.bool (((t.kind != 3)||decide (0≤t.b1))||decide (0<((t.args0.length:Nat):Int))))),(.e 33 (.agg #[.I x.params,.slice (some ⟨oby,ooy,none⟩) x.ops.length j1x,.I x.term.kind,.I x.term.a,.I x.term.n,.slice B2x x.term.args.length j2x,.I x.term.b0,.slice B3x x.term.args0.length j3x,.I x.term.b1,.slice B4x x.term.args1.length j4x])),(.e 35 (.slice (some ⟨oby,ooy,none⟩) x.ops.length j1x)),(.e 36 (.I ((x.ops.length:Nat):Int))),(.e 37 (.I ((k:Nat):Int))),(.e 38 (.bool (decide (((k:Nat):Int)<((x.ops.length:Nat):Int))))),(.e 40 (.agg #[.I y.kind,.I y.dst,.I y.a,.I y.b,.I y.n,.I y.ctx,.I y.var,.I y.piece,.I y.sk,.I y.sv,.I y.sa])),(.e 48 (.bool ((y.kind != 21)&&(y.kind != 20))))] [] [] [] [] hR hM mix (by kernel_rfl) (by kernel_rfl) (by kernel_rfl) (by kernel_rfl) trivial trivial (fun w' hb' hM'=>trivial) (fun w' hb' hM'=>trivial) ?_
   clear hR hM; intro a61 w62 hR hb63 hM
   replace hB:=hB.tr hb63
   replace hkn56:=SX.blk_below hkn56 hb63
   refine hK60 _ _ ?_
   refine SX.cond_ ((y.kind != 21)&&(y.kind != 20)) hR (by kernel_rfl) (fun h64=>?_) (fun h64=>?_)
   ·skip
    refine wp_seq_k fun K65 hK65=>?_
    refine SX.region_q0 [.ld []] [3,4,5,7,25,33,35,36,37,38,40,48] [(.e 3 (.P n9)),(.e 4 (.bool false)),(.e 5 (.P n30)),(.e 7 (.P n56)),(.e 25 (.bool (((t.kind != 3)||decide (0≤t.b1))||decide (0<((t.args0.length:Nat):Int))))),(.e 33 (.agg #[.I x.params,.slice (some ⟨oby,ooy,none⟩) x.ops.length j1x,.I x.term.kind,.I x.term.a,.I x.term.n,.slice B2x x.term.args.length j2x,.I x.term.b0,.slice B3x x.term.args0.length j3x,.I x.term.b1,.slice B4x x.term.args1.length j4x])),(.e 35 (.slice (some ⟨oby,ooy,none⟩) x.ops.length j1x)),(.e 36 (.I ((x.ops.length:Nat):Int))),(.e 37 (.I ((k:Nat):Int))),(.e 38 (.bool (decide (((k:Nat):Int)<((x.ops.length:Nat):Int))))),(.e 40 (.agg #[.I y.kind,.I y.dst,.I y.a,.I y.b,.I y.n,.I y.ctx,.I y.var,.I y.piece,.I y.sk,.I y.sv,.I y.sa])),(.e 48 (.bool ((y.kind != 21)&&(y.kind != 20))))] hR hM mix (by kernel_rfl) (by kernel_rfl) (by kernel_rfl) (by kernel_rfl) ?_
    clear hR hM; intro a66 w67 hR hb68 hM
    replace hB:=hB.tr hb68
    replace hkn56:=SX.blk_below hkn56 hb68
    refine hK65 _ _ ?_
    refine wp_ret ?_
    try simp only [Exit.then,Exit.inBlock,Nat.reduceEqDiff,↓reduceIte]
    refine SX.ret_ 4 (.bool false) Try.results50 hR (by kernel_rfl) ?_
    clear hR hM mix hK1 hzn5 hb4 hkn5 hln5 hn5 hzn9 qn5n9 hb8 hkn9 hln9 hn9 hb12 hK13 hK14 hb17 hK23 hb26 hzn30 qn5n30 qn9n30 hb29 hkn30 hln30 hn30 hnen30 hb33 hK34 hK35 hb38 hm41 hK42 hb45 hK46 hK48 hK49 hb52 hzn56 hb55 hkn56 hln56 hn56 hnen56 hb59 hK60 hb63 hK65 hb68
    refine ⟨ret_bool ?_,hB⟩
    unfold isTailD
    simp only [h18,Bool.false_eq_true,↓reduceIte]
    rw [hx]
    exact retB_no hy h64
   ·skip
    refine wp_skip ?_
    refine hK48 _ _ ?_
    refine SX.region_q [] [.nm (.I ((k+1:Nat):Int)),.ld []] [3,5,7,25,33,35,36,37,38,40,48] [(.e 3 (.P n9)),(.e 5 (.P n30)),(.e 7 (.P n56)),(.e 25 (.bool (((t.kind != 3)||decide (0≤t.b1))||decide (0<((t.args0.length:Nat):Int))))),(.e 33 (.agg #[.I x.params,.slice (some ⟨oby,ooy,none⟩) x.ops.length j1x,.I x.term.kind,.I x.term.a,.I x.term.n,.slice B2x x.term.args.length j2x,.I x.term.b0,.slice B3x x.term.args0.length j3x,.I x.term.b1,.slice B4x x.term.args1.length j4x])),(.e 35 (.slice (some ⟨oby,ooy,none⟩) x.ops.length j1x)),(.e 36 (.I ((x.ops.length:Nat):Int))),(.e 37 (.I ((k+1:Nat):Int))),(.e 38 (.bool (decide (((k:Nat):Int)<((x.ops.length:Nat):Int))))),(.e 40 (.agg #[.I y.kind,.I y.dst,.I y.a,.I y.b,.I y.n,.I y.ctx,.I y.var,.I y.piece,.I y.sk,.I y.sv,.I y.sa])),(.e 48 (.bool ((y.kind != 21)&&(y.kind != 20))))] [] [] [] [([],(.I (IntKind.i64.wrap (((k:Nat):Int)+1))),(.I ((k+1:Nat):Int)))] hR hM mix (by kernel_rfl) (by kernel_rfl) (by kernel_rfl) (by kernel_rfl) trivial ⟨fun hg=>SX.wrap_ok (by omega),trivial⟩ (fun w' hb' hM'=>trivial) (fun w' hb' hM'=>trivial) ?_
    clear hR hM; intro a69 w70 hR hb71 hM
    replace hB:=hB.tr hb71
    replace hkn56:=SX.blk_below hkn56 hb71
    exact ⟨x.ops.length-(k+1),by omega,k+1,rfl,by omega,hR.keep (ts:=[3,5,25,33,35,36,37]) (by kernel_rfl),hB,SX.cells_sub hM [22,23,24,25,26,27,28,29,30,31,32,33,34,35,36,37,38,39,40,41,42,43,44,45,46,47,48,49,50,51,52,53] (by kernel_rfl),hIk.step hy (by rw [h64]; rfl)⟩
  ·skip
   refine wp_exit ?_
   refine hK34 _ _ ?_
   refine wp_seq_k fun K72 hK72=>?_
   refine SX.region_q [(4,(x.term.kind==4))] [.ld [],.ld [],.ld [2],.ld [],.ld [],.ld [],.ld [],.ld [3],.ld [],.pk,.ld []] [3,4,5,25,33,35,36,37,38] [(.e 3 (.P n9)),(.e 4 (.bool ((x.term.kind==4)&&(x.term.a==0)))),(.e 5 (.P n30)),(.e 25 (.bool (((t.kind != 3)||decide (0≤t.b1))||decide (0<((t.args0.length:Nat):Int))))),(.e 33 (.agg #[.I x.params,.slice B1x x.ops.length j1x,.I x.term.kind,.I x.term.a,.I x.term.n,.slice B2x x.term.args.length j2x,.I x.term.b0,.slice B3x x.term.args0.length j3x,.I x.term.b1,.slice B4x x.term.args1.length j4x])),(.e 35 (.slice B1x x.ops.length j1x)),(.e 36 (.I ((x.ops.length:Nat):Int))),(.e 37 (.I ((k:Nat):Int))),(.e 38 (.bool (decide (((k:Nat):Int)<((x.ops.length:Nat):Int)))))] [] [] [] [] hR hM mix (by kernel_rfl) (by kernel_rfl) (by kernel_rfl) (by kernel_rfl) trivial trivial (fun w' hb' hM'=>trivial) (fun w' hb' hM'=>trivial) ?_
   clear hR hM; intro a73 w74 hR hb75 hM
   replace hB:=hB.tr hb75
   refine hK72 _ _ ?_
   refine wp_ret ?_
   try simp only [Exit.then,Exit.inBlock,Nat.reduceEqDiff,↓reduceIte]
   refine SX.ret_ 4 (.bool ((x.term.kind==4)&&(x.term.a==0))) Try.results50 hR (by kernel_rfl) ?_
   clear hR hM mix hK1 hzn5 hb4 hkn5 hln5 hn5 hzn9 qn5n9 hb8 hkn9 hln9 hn9 hb12 hK13 hK14 hb17 hK23 hb26 hzn30 qn5n30 qn9n30 hb29 hkn30 hln30 hn30 hnen30 hb33 hK34 hK35 hb38 hm41 hK42 hb45 hK46 hK72 hb75
   refine ⟨ret_bool ?_,hB⟩
   unfold isTailD
   simp only [h18,Bool.false_eq_true,↓reduceIte]
   rw [hx]
   exact retB_yes hIk (le_of_dec h47)

theorem self_ne99 (i j:Nat) (x0 x1 x2:Int) (w:World):(binS .neq 99 (.tmp i) (.tmp j) (.agg #[.I x0,.I x1,.I x2]) (.agg #[.I x0,.I x1,.I x2])).run Try.prog w=.ok (.value (.bool false)) w:=by
 unfold binS
 simp [go_sem,eqGuard,Try.underlying99]

theorem self_ne102 (i j:Nat) (x0 x1 x2:Int) (w:World):(binS .neq 102 (.tmp i) (.tmp j) (.agg #[.I x0,.I x1,.I x2]) (.agg #[.I x0,.I x1,.I x2])).run Try.prog w=.ok (.value (.bool false)) w:=by
 unfold binS
 simp [go_sem,eqGuard,Try.underlying102]

theorem self_ne74 (i j:Nat) (x0 x1 x2 x3 x4 x5 x6 x7 x8 x9 x10:Int) (w:World):(binS .neq 74 (.tmp i) (.tmp j) (.agg #[.I x0,.I x1,.I x2,.I x3,.I x4,.I x5,.I x6,.I x7,.I x8,.I x9,.I x10]) (.agg #[.I x0,.I x1,.I x2,.I x3,.I x4,.I x5,.I x6,.I x7,.I x8,.I x9,.I x10])).run Try.prog w=.ok (.value (.bool false)) w:=by
 unfold binS
 simp [go_sem,eqGuard,Try.underlying74,Try.underlying72]

set_option maxHeartbeats 400000 in
theorem listI_any (u v:Value) (xs:List Int) (w:World) (hu:IntsAt w u xs) (hv:IntsAt w v xs):Calls Try.prog 28 #[u,v] w fun e w'=>e=.returned (.bool (true))∧Below w.heap.size w w':=by
 have hu0:=hu
 have hv0:=hv
 obtain ⟨Au,ku,rfl,su⟩:=hu.shape
 obtain ⟨Av,kv,rfl,sv⟩:=hv.shape
 unfold Shape at su sv
 have mix:=mixed
 have hB:Below w.heap.size w w:=Below.refl _ _
 have hM:SX.Cells w []:=SX.cells_nil
 refine SX.enter [(.slice Au xs.length ku),(.slice Av xs.length kv)] 26 Try.func28 rfl rfl (by kernel_rfl) ?_
 intro a hR
 refine wp_seq_k fun K1 hK1=>?_
 refine SX.region_q0 [.ld []] [0,1,4] [(.e 0 (.slice Au xs.length ku)),(.e 1 (.slice Av xs.length kv)),(.e 4 (.bool false))] hR hM mix (by kernel_rfl) (by kernel_rfl) (by kernel_rfl) (by kernel_rfl) ?_
 clear hR hM; intro a2 w3 hR hb4 hM
 replace hB:=hB.tr hb4
 refine hK1 _ _ ?_
 refine wp_seq_k fun K5 hK5=>?_
 refine wp_seq_k fun K6 hK6=>?_
 refine SX.region_q0 [.ld [],.ld [],.ld [],.ld [],.ld []] [0,1,4,10] [(.e 0 (.slice Au xs.length ku)),(.e 1 (.slice Av xs.length kv)),(.e 4 (.bool false)),(.e 10 (.bool (((xs.length:Nat):Int) != ((xs.length:Nat):Int))))] hR hM mix (by kernel_rfl) (by kernel_rfl) (by kernel_rfl) (by kernel_rfl) ?_
 clear hR hM; intro a7 w8 hR hb9 hM
 replace hB:=hB.tr hb9
 refine hK6 _ _ ?_
 refine SX.cond_ (((xs.length:Nat):Int) != ((xs.length:Nat):Int)) hR (by kernel_rfl) (fun h10=>?_) (fun h10=>?_)
 ·skip
  exact absurd h10 (by simp)
 ·skip
  refine wp_skip ?_
  refine hK5 _ _ ?_
  refine wp_seq_k fun K11 hK11=>?_
  refine wp_seq_k fun K12 hK12=>?_
  refine SX.region_q0 [.ld []] [0,1,4,5,10] [(.e 0 (.slice Au xs.length ku)),(.e 1 (.slice Av xs.length kv)),(.e 4 (.bool false)),(.e 5 (.I 0)),(.e 10 (.bool (((xs.length:Nat):Int) != ((xs.length:Nat):Int))))] hR hM mix (by kernel_rfl) (by kernel_rfl) (by kernel_rfl) (by kernel_rfl) ?_
  clear hR hM; intro a13 w14 hR hb15 hM
  replace hB:=hB.tr hb15
  refine hK12 _ _ ?_
  refine wp_block ?_
  refine wp_loop_ghost (fun m18 a' w'=>∃ k:Nat,m18=xs.length-k∧k≤xs.length∧SX.RSt 26 [] [(.e 0 (.slice Au xs.length ku)),(.e 1 (.slice Av xs.length kv)),(.e 5 (.I ((k:Nat):Int))),(.e 10 (.bool (((xs.length:Nat):Int) != ((xs.length:Nat):Int))))] a'∧Below w.heap.size w w'∧SX.Cells w' []∧True) (xs.length-0) ⟨0,rfl,Nat.zero_le _,hR.keep (ts:=[0,1,5,10]) (by kernel_rfl),hB,hM,trivial⟩ ?_
  clear hR hM hB
  rintro m18 a16 w17 ⟨k,hm18,hlek,hR,hB,hM,hIk⟩
  refine wp_seq_k fun K19 hK19=>?_
  refine wp_seq_k fun K20 hK20=>?_
  refine SX.region_q0 [.ld [],.ld [],.ld [],.ld []] [0,1,5,10,14] [(.e 0 (.slice Au xs.length ku)),(.e 1 (.slice Av xs.length kv)),(.e 5 (.I ((k:Nat):Int))),(.e 10 (.bool (((xs.length:Nat):Int) != ((xs.length:Nat):Int)))),(.e 14 (.bool (decide (((k:Nat):Int)<((xs.length:Nat):Int)))))] hR hM mix (by kernel_rfl) (by kernel_rfl) (by kernel_rfl) (by kernel_rfl) ?_
  clear hR hM; intro a21 w22 hR hb23 hM
  replace hB:=hB.tr hb23
  refine hK20 _ _ ?_
  refine SX.cond_ (decide (((k:Nat):Int)<((xs.length:Nat):Int))) hR (by kernel_rfl) (fun h24=>?_) (fun h24=>?_)
  ·skip
   refine wp_skip ?_
   refine hK19 _ _ ?_
   refine wp_seq_k fun K25 hK25=>?_
   refine wp_block ?_
   refine wp_seq_k fun K26 hK26=>?_
   have hlt:k<xs.length:=lt_of_dec h24
   obtain ⟨y,hy⟩:=get_of_lt hlt
   obtain ⟨iby,ioy,hAy,hiy,ciy⟩:=hu0.elem hy
   subst hAy
   have hoy:iby<w.heap.size:=World.block_lt_of_cell? w _ ciy
   replace hM:=(SX.cells_add (cell_below hB ciy) hM)
   obtain ⟨ibz,ioz,hAz,hiz,ciz⟩:=hv0.elem hy
   subst hAz
   have hoz:ibz<w.heap.size:=World.block_lt_of_cell? w _ ciz
   replace hM:=(SX.cells_add (cell_below hB ciz) hM)
   refine SX.region_q [] [.ld [],.ld [],.ix ⟨iby,ioy+k*1,none⟩,.ld [1],.ld [],.ld [],.ix ⟨ibz,ioz+k*1,none⟩,.ld [0],.ld []] [0,1,5,10,14,25] [(.e 0 (.slice (some ⟨iby,ioy,none⟩) xs.length ku)),(.e 1 (.slice (some ⟨ibz,ioz,none⟩) xs.length kv)),(.e 5 (.I ((k:Nat):Int))),(.e 10 (.bool (((xs.length:Nat):Int) != ((xs.length:Nat):Int)))),(.e 14 (.bool (decide (((k:Nat):Int)<((xs.length:Nat):Int))))),(.e 25 (.bool (y != y)))] [([],⟨iby,ioy,none⟩,xs.length,((k:Nat):Int),1,⟨iby,ioy+k*1,none⟩),([],⟨ibz,ioz,none⟩,xs.length,((k:Nat):Int),1,⟨ibz,ioz+k*1,none⟩)] [] [] [] hR hM mix (by kernel_rfl) (by kernel_rfl) (by kernel_rfl) (by kernel_rfl) ⟨fun hg=>SX.ix_ok (by omega),fun hg=>SX.ix_ok (by omega),trivial⟩ trivial (fun w' hb' hM'=>trivial) (fun w' hb' hM'=>trivial) ?_
   clear hR hM; intro a27 w28 hR hb29 hM
   replace hB:=hB.tr hb29
   refine hK26 _ _ ?_
   refine SX.cond_ (y != y) hR (by kernel_rfl) (fun h30=>?_) (fun h30=>?_)
   ·skip
    exact absurd h30 (by simp)
   ·skip
    refine wp_skip ?_
    refine hK25 _ _ ?_
    refine SX.region_q [] [.ld [],.nm (.I ((k+1:Nat):Int)),.ld []] [0,1,5,10,14,25] [(.e 0 (.slice (some ⟨iby,ioy,none⟩) xs.length ku)),(.e 1 (.slice (some ⟨ibz,ioz,none⟩) xs.length kv)),(.e 5 (.I ((k+1:Nat):Int))),(.e 10 (.bool (((xs.length:Nat):Int) != ((xs.length:Nat):Int)))),(.e 14 (.bool (decide (((k:Nat):Int)<((xs.length:Nat):Int))))),(.e 25 (.bool (y != y)))] [] [] [] [([],(.I (IntKind.i64.wrap (((k:Nat):Int)+1))),(.I ((k+1:Nat):Int)))] hR hM mix (by kernel_rfl) (by kernel_rfl) (by kernel_rfl) (by kernel_rfl) trivial ⟨fun hg=>SX.wrap_ok (by omega),trivial⟩ (fun w' hb' hM'=>trivial) (fun w' hb' hM'=>trivial) ?_
    clear hR hM; intro a31 w32 hR hb33 hM
    replace hB:=hB.tr hb33
    exact ⟨xs.length-(k+1),by omega,k+1,rfl,by omega,hR.keep (ts:=[0,1,5,10]) (by kernel_rfl),hB,SX.cells_sub hM [] (by kernel_rfl),trivial⟩
  ·skip
   refine wp_exit ?_
   refine hK11 _ _ ?_
   refine wp_seq_k fun K34 hK34=>?_
   refine SX.region_q0 [.ld []] [0,1,4,5,10,14] [(.e 0 (.slice Au xs.length ku)),(.e 1 (.slice Av xs.length kv)),(.e 4 (.bool true)),(.e 5 (.I ((k:Nat):Int))),(.e 10 (.bool (((xs.length:Nat):Int) != ((xs.length:Nat):Int)))),(.e 14 (.bool (decide (((k:Nat):Int)<((xs.length:Nat):Int)))))] hR hM mix (by kernel_rfl) (by kernel_rfl) (by kernel_rfl) (by kernel_rfl) ?_
   clear hR hM; intro a35 w36 hR hb37 hM
   replace hB:=hB.tr hb37
   refine hK34 _ _ ?_
   refine wp_ret ?_
   try simp only [Exit.then,Exit.inBlock,Nat.reduceEqDiff,↓reduceIte]
   refine SX.ret_ 4 (.bool true) Try.results28 hR (by kernel_rfl) ?_
   clear hR hM mix hK1 hb4 hK5 hK6 hb9 hK11 hK12 hb15 hm18 hK19 hK20 hb23 hK34 hb37
   exact ⟨rfl,hB⟩

set_option maxHeartbeats 400000 in
theorem listC_any (u v:Value) (xs:List (Int × Int × Int)) (w:World) (hu:RecsAt w u xs) (hv:RecsAt w v xs):Calls Try.prog 52 #[u,v] w fun e w'=>e=.returned (.bool (true))∧Below w.heap.size w w':=by
 have hu0:=hu
 have hv0:=hv
 obtain ⟨Au,ku,rfl,su⟩:=hu.shape
 obtain ⟨Av,kv,rfl,sv⟩:=hv.shape
 unfold Shape at su sv
 have mix:=mixed
 have hB:Below w.heap.size w w:=Below.refl _ _
 have hM:SX.Cells w []:=SX.cells_nil
 refine SX.enter [(.slice Au xs.length ku),(.slice Av xs.length kv)] 26 Try.func52 rfl rfl (by kernel_rfl) ?_
 intro a hR
 refine wp_seq_k fun K1 hK1=>?_
 refine SX.region_q0 [.ld []] [0,1,4] [(.e 0 (.slice Au xs.length ku)),(.e 1 (.slice Av xs.length kv)),(.e 4 (.bool false))] hR hM mix (by kernel_rfl) (by kernel_rfl) (by kernel_rfl) (by kernel_rfl) ?_
 clear hR hM; intro a2 w3 hR hb4 hM
 replace hB:=hB.tr hb4
 refine hK1 _ _ ?_
 refine wp_seq_k fun K5 hK5=>?_
 refine wp_seq_k fun K6 hK6=>?_
 refine SX.region_q0 [.ld [],.ld [],.ld [],.ld [],.ld []] [0,1,4,10] [(.e 0 (.slice Au xs.length ku)),(.e 1 (.slice Av xs.length kv)),(.e 4 (.bool false)),(.e 10 (.bool (((xs.length:Nat):Int) != ((xs.length:Nat):Int))))] hR hM mix (by kernel_rfl) (by kernel_rfl) (by kernel_rfl) (by kernel_rfl) ?_
 clear hR hM; intro a7 w8 hR hb9 hM
 replace hB:=hB.tr hb9
 refine hK6 _ _ ?_
 refine SX.cond_ (((xs.length:Nat):Int) != ((xs.length:Nat):Int)) hR (by kernel_rfl) (fun h10=>?_) (fun h10=>?_)
 ·skip
  exact absurd h10 (by simp)
 ·skip
  refine wp_skip ?_
  refine hK5 _ _ ?_
  refine wp_seq_k fun K11 hK11=>?_
  refine wp_seq_k fun K12 hK12=>?_
  refine SX.region_q0 [.ld []] [0,1,4,5,10] [(.e 0 (.slice Au xs.length ku)),(.e 1 (.slice Av xs.length kv)),(.e 4 (.bool false)),(.e 5 (.I 0)),(.e 10 (.bool (((xs.length:Nat):Int) != ((xs.length:Nat):Int))))] hR hM mix (by kernel_rfl) (by kernel_rfl) (by kernel_rfl) (by kernel_rfl) ?_
  clear hR hM; intro a13 w14 hR hb15 hM
  replace hB:=hB.tr hb15
  refine hK12 _ _ ?_
  refine wp_block ?_
  refine wp_loop_ghost (fun m18 a' w'=>∃ k:Nat,m18=xs.length-k∧k≤xs.length∧SX.RSt 26 [] [(.e 0 (.slice Au xs.length ku)),(.e 1 (.slice Av xs.length kv)),(.e 5 (.I ((k:Nat):Int))),(.e 10 (.bool (((xs.length:Nat):Int) != ((xs.length:Nat):Int))))] a'∧Below w.heap.size w w'∧SX.Cells w' []∧True) (xs.length-0) ⟨0,rfl,Nat.zero_le _,hR.keep (ts:=[0,1,5,10]) (by kernel_rfl),hB,hM,trivial⟩ ?_
  clear hR hM hB
  rintro m18 a16 w17 ⟨k,hm18,hlek,hR,hB,hM,hIk⟩
  refine wp_seq_k fun K19 hK19=>?_
  refine wp_seq_k fun K20 hK20=>?_
  refine SX.region_q0 [.ld [],.ld [],.ld [],.ld []] [0,1,5,10,14] [(.e 0 (.slice Au xs.length ku)),(.e 1 (.slice Av xs.length kv)),(.e 5 (.I ((k:Nat):Int))),(.e 10 (.bool (((xs.length:Nat):Int) != ((xs.length:Nat):Int)))),(.e 14 (.bool (decide (((k:Nat):Int)<((xs.length:Nat):Int)))))] hR hM mix (by kernel_rfl) (by kernel_rfl) (by kernel_rfl) (by kernel_rfl) ?_
  clear hR hM; intro a21 w22 hR hb23 hM
  replace hB:=hB.tr hb23
  refine hK20 _ _ ?_
  refine SX.cond_ (decide (((k:Nat):Int)<((xs.length:Nat):Int))) hR (by kernel_rfl) (fun h24=>?_) (fun h24=>?_)
  ·skip
   refine wp_skip ?_
   refine hK19 _ _ ?_
   refine wp_seq_k fun K25 hK25=>?_
   refine wp_block ?_
   refine wp_seq_k fun K26 hK26=>?_
   have hlt:k<xs.length:=lt_of_dec h24
   obtain ⟨y,hy⟩:=get_of_lt hlt
   obtain ⟨rby,roy,hAy,hiy,cr0y,cr1y,cr2y⟩:=hu0.elem hy
   subst hAy
   have hoy:rby<w.heap.size:=World.block_lt_of_cell? w _ cr0y
   replace hM:=(SX.cells_add (cell_below hB cr0y) (SX.cells_add (cell_below hB cr1y) (SX.cells_add (cell_below hB cr2y) hM)))
   obtain ⟨rbz,roz,hAz,hiz,cr0z,cr1z,cr2z⟩:=hv0.elem hy
   subst hAz
   have hoz:rbz<w.heap.size:=World.block_lt_of_cell? w _ cr0z
   replace hM:=(SX.cells_add (cell_below hB cr0z) (SX.cells_add (cell_below hB cr1z) (SX.cells_add (cell_below hB cr2z) hM)))
   refine SX.region_q [] [.ld [],.ld [],.ix ⟨rby,roy+k*3,none⟩,.ld [3,4,5],.ld [],.ld [],.ix ⟨rbz,roz+k*3,none⟩,.ld [0,1,2],.hd (.bool false)] [0,1,5,10,14,25] [(.e 0 (.slice (some ⟨rby,roy,none⟩) xs.length ku)),(.e 1 (.slice (some ⟨rbz,roz,none⟩) xs.length kv)),(.e 5 (.I ((k:Nat):Int))),(.e 10 (.bool (((xs.length:Nat):Int) != ((xs.length:Nat):Int)))),(.e 14 (.bool (decide (((k:Nat):Int)<((xs.length:Nat):Int))))),(.e 25 (.bool false))] [([],⟨rby,roy,none⟩,xs.length,((k:Nat):Int),3,⟨rby,roy+k*3,none⟩),([],⟨rbz,roz,none⟩,xs.length,((k:Nat):Int),3,⟨rbz,roz+k*3,none⟩)] [([],binS .neq 99 (.tmp 20) (.tmp 24) (.agg #[.I y.1,.I y.2.1,.I y.2.2]) (.agg #[.I y.1,.I y.2.1,.I y.2.2]),(.bool false))] [] [] hR hM mix (by kernel_rfl) (by kernel_rfl) (by kernel_rfl) (by kernel_rfl) ⟨fun hg=>SX.ix_ok (by omega),fun hg=>SX.ix_ok (by omega),trivial⟩ trivial (fun w' hb' hM'=>⟨fun hg=>self_ne99 _ _ _ _ _ _,trivial⟩) (fun w' hb' hM'=>trivial) ?_
   clear hR hM; intro a27 w28 hR hb29 hM
   replace hB:=hB.tr hb29
   refine hK26 _ _ ?_
   refine SX.cond_ false hR (by kernel_rfl) (fun h30=>nomatch h30) (fun h30=>?_)
   refine wp_skip ?_
   refine hK25 _ _ ?_
   refine SX.region_q [] [.ld [],.nm (.I ((k+1:Nat):Int)),.ld []] [0,1,5,10,14,25] [(.e 0 (.slice (some ⟨rby,roy,none⟩) xs.length ku)),(.e 1 (.slice (some ⟨rbz,roz,none⟩) xs.length kv)),(.e 5 (.I ((k+1:Nat):Int))),(.e 10 (.bool (((xs.length:Nat):Int) != ((xs.length:Nat):Int)))),(.e 14 (.bool (decide (((k:Nat):Int)<((xs.length:Nat):Int))))),(.e 25 (.bool false))] [] [] [] [([],(.I (IntKind.i64.wrap (((k:Nat):Int)+1))),(.I ((k+1:Nat):Int)))] hR hM mix (by kernel_rfl) (by kernel_rfl) (by kernel_rfl) (by kernel_rfl) trivial ⟨fun hg=>SX.wrap_ok (by omega),trivial⟩ (fun w' hb' hM'=>trivial) (fun w' hb' hM'=>trivial) ?_
   clear hR hM; intro a31 w32 hR hb33 hM
   replace hB:=hB.tr hb33
   exact ⟨xs.length-(k+1),by omega,k+1,rfl,by omega,hR.keep (ts:=[0,1,5,10]) (by kernel_rfl),hB,SX.cells_sub hM [] (by kernel_rfl),trivial⟩
  ·skip
   refine wp_exit ?_
   refine hK11 _ _ ?_
   refine wp_seq_k fun K34 hK34=>?_
   refine SX.region_q0 [.ld []] [0,1,4,5,10,14] [(.e 0 (.slice Au xs.length ku)),(.e 1 (.slice Av xs.length kv)),(.e 4 (.bool true)),(.e 5 (.I ((k:Nat):Int))),(.e 10 (.bool (((xs.length:Nat):Int) != ((xs.length:Nat):Int)))),(.e 14 (.bool (decide (((k:Nat):Int)<((xs.length:Nat):Int)))))] hR hM mix (by kernel_rfl) (by kernel_rfl) (by kernel_rfl) (by kernel_rfl) ?_
   clear hR hM; intro a35 w36 hR hb37 hM
   replace hB:=hB.tr hb37
   refine hK34 _ _ ?_
   refine wp_ret ?_
   try simp only [Exit.then,Exit.inBlock,Nat.reduceEqDiff,↓reduceIte]
   refine SX.ret_ 4 (.bool true) Try.results52 hR (by kernel_rfl) ?_
   clear hR hM mix hK1 hb4 hK5 hK6 hb9 hK11 hK12 hb15 hm18 hK19 hK20 hb23 hK34 hb37
   exact ⟨rfl,hB⟩

set_option maxHeartbeats 400000 in
theorem listO_any (u v:Value) (xs:List (Int × Int × Int)) (w:World) (hu:RecsAt w u xs) (hv:RecsAt w v xs):Calls Try.prog 53 #[u,v] w fun e w'=>e=.returned (.bool (true))∧Below w.heap.size w w':=by
 have hu0:=hu
 have hv0:=hv
 obtain ⟨Au,ku,rfl,su⟩:=hu.shape
 obtain ⟨Av,kv,rfl,sv⟩:=hv.shape
 unfold Shape at su sv
 have mix:=mixed
 have hB:Below w.heap.size w w:=Below.refl _ _
 have hM:SX.Cells w []:=SX.cells_nil
 refine SX.enter [(.slice Au xs.length ku),(.slice Av xs.length kv)] 26 Try.func53 rfl rfl (by kernel_rfl) ?_
 intro a hR
 refine wp_seq_k fun K1 hK1=>?_
 refine SX.region_q0 [.ld []] [0,1,4] [(.e 0 (.slice Au xs.length ku)),(.e 1 (.slice Av xs.length kv)),(.e 4 (.bool false))] hR hM mix (by kernel_rfl) (by kernel_rfl) (by kernel_rfl) (by kernel_rfl) ?_
 clear hR hM; intro a2 w3 hR hb4 hM
 replace hB:=hB.tr hb4
 refine hK1 _ _ ?_
 refine wp_seq_k fun K5 hK5=>?_
 refine wp_seq_k fun K6 hK6=>?_
 refine SX.region_q0 [.ld [],.ld [],.ld [],.ld [],.ld []] [0,1,4,10] [(.e 0 (.slice Au xs.length ku)),(.e 1 (.slice Av xs.length kv)),(.e 4 (.bool false)),(.e 10 (.bool (((xs.length:Nat):Int) != ((xs.length:Nat):Int))))] hR hM mix (by kernel_rfl) (by kernel_rfl) (by kernel_rfl) (by kernel_rfl) ?_
 clear hR hM; intro a7 w8 hR hb9 hM
 replace hB:=hB.tr hb9
 refine hK6 _ _ ?_
 refine SX.cond_ (((xs.length:Nat):Int) != ((xs.length:Nat):Int)) hR (by kernel_rfl) (fun h10=>?_) (fun h10=>?_)
 ·skip
  exact absurd h10 (by simp)
 ·skip
  refine wp_skip ?_
  refine hK5 _ _ ?_
  refine wp_seq_k fun K11 hK11=>?_
  refine wp_seq_k fun K12 hK12=>?_
  refine SX.region_q0 [.ld []] [0,1,4,5,10] [(.e 0 (.slice Au xs.length ku)),(.e 1 (.slice Av xs.length kv)),(.e 4 (.bool false)),(.e 5 (.I 0)),(.e 10 (.bool (((xs.length:Nat):Int) != ((xs.length:Nat):Int))))] hR hM mix (by kernel_rfl) (by kernel_rfl) (by kernel_rfl) (by kernel_rfl) ?_
  clear hR hM; intro a13 w14 hR hb15 hM
  replace hB:=hB.tr hb15
  refine hK12 _ _ ?_
  refine wp_block ?_
  refine wp_loop_ghost (fun m18 a' w'=>∃ k:Nat,m18=xs.length-k∧k≤xs.length∧SX.RSt 26 [] [(.e 0 (.slice Au xs.length ku)),(.e 1 (.slice Av xs.length kv)),(.e 5 (.I ((k:Nat):Int))),(.e 10 (.bool (((xs.length:Nat):Int) != ((xs.length:Nat):Int))))] a'∧Below w.heap.size w w'∧SX.Cells w' []∧True) (xs.length-0) ⟨0,rfl,Nat.zero_le _,hR.keep (ts:=[0,1,5,10]) (by kernel_rfl),hB,hM,trivial⟩ ?_
  clear hR hM hB
  rintro m18 a16 w17 ⟨k,hm18,hlek,hR,hB,hM,hIk⟩
  refine wp_seq_k fun K19 hK19=>?_
  refine wp_seq_k fun K20 hK20=>?_
  refine SX.region_q0 [.ld [],.ld [],.ld [],.ld []] [0,1,5,10,14] [(.e 0 (.slice Au xs.length ku)),(.e 1 (.slice Av xs.length kv)),(.e 5 (.I ((k:Nat):Int))),(.e 10 (.bool (((xs.length:Nat):Int) != ((xs.length:Nat):Int)))),(.e 14 (.bool (decide (((k:Nat):Int)<((xs.length:Nat):Int)))))] hR hM mix (by kernel_rfl) (by kernel_rfl) (by kernel_rfl) (by kernel_rfl) ?_
  clear hR hM; intro a21 w22 hR hb23 hM
  replace hB:=hB.tr hb23
  refine hK20 _ _ ?_
  refine SX.cond_ (decide (((k:Nat):Int)<((xs.length:Nat):Int))) hR (by kernel_rfl) (fun h24=>?_) (fun h24=>?_)
  ·skip
   refine wp_skip ?_
   refine hK19 _ _ ?_
   refine wp_seq_k fun K25 hK25=>?_
   refine wp_block ?_
   refine wp_seq_k fun K26 hK26=>?_
   have hlt:k<xs.length:=lt_of_dec h24
   obtain ⟨y,hy⟩:=get_of_lt hlt
   obtain ⟨rby,roy,hAy,hiy,cr0y,cr1y,cr2y⟩:=hu0.elem hy
   subst hAy
   have hoy:rby<w.heap.size:=World.block_lt_of_cell? w _ cr0y
   replace hM:=(SX.cells_add (cell_below hB cr0y) (SX.cells_add (cell_below hB cr1y) (SX.cells_add (cell_below hB cr2y) hM)))
   obtain ⟨rbz,roz,hAz,hiz,cr0z,cr1z,cr2z⟩:=hv0.elem hy
   subst hAz
   have hoz:rbz<w.heap.size:=World.block_lt_of_cell? w _ cr0z
   replace hM:=(SX.cells_add (cell_below hB cr0z) (SX.cells_add (cell_below hB cr1z) (SX.cells_add (cell_below hB cr2z) hM)))
   refine SX.region_q [] [.ld [],.ld [],.ix ⟨rby,roy+k*3,none⟩,.ld [3,4,5],.ld [],.ld [],.ix ⟨rbz,roz+k*3,none⟩,.ld [0,1,2],.hd (.bool false)] [0,1,5,10,14,25] [(.e 0 (.slice (some ⟨rby,roy,none⟩) xs.length ku)),(.e 1 (.slice (some ⟨rbz,roz,none⟩) xs.length kv)),(.e 5 (.I ((k:Nat):Int))),(.e 10 (.bool (((xs.length:Nat):Int) != ((xs.length:Nat):Int)))),(.e 14 (.bool (decide (((k:Nat):Int)<((xs.length:Nat):Int))))),(.e 25 (.bool false))] [([],⟨rby,roy,none⟩,xs.length,((k:Nat):Int),3,⟨rby,roy+k*3,none⟩),([],⟨rbz,roz,none⟩,xs.length,((k:Nat):Int),3,⟨rbz,roz+k*3,none⟩)] [([],binS .neq 102 (.tmp 20) (.tmp 24) (.agg #[.I y.1,.I y.2.1,.I y.2.2]) (.agg #[.I y.1,.I y.2.1,.I y.2.2]),(.bool false))] [] [] hR hM mix (by kernel_rfl) (by kernel_rfl) (by kernel_rfl) (by kernel_rfl) ⟨fun hg=>SX.ix_ok (by omega),fun hg=>SX.ix_ok (by omega),trivial⟩ trivial (fun w' hb' hM'=>⟨fun hg=>self_ne102 _ _ _ _ _ _,trivial⟩) (fun w' hb' hM'=>trivial) ?_
   clear hR hM; intro a27 w28 hR hb29 hM
   replace hB:=hB.tr hb29
   refine hK26 _ _ ?_
   refine SX.cond_ false hR (by kernel_rfl) (fun h30=>nomatch h30) (fun h30=>?_)
   refine wp_skip ?_
   refine hK25 _ _ ?_
   refine SX.region_q [] [.ld [],.nm (.I ((k+1:Nat):Int)),.ld []] [0,1,5,10,14,25] [(.e 0 (.slice (some ⟨rby,roy,none⟩) xs.length ku)),(.e 1 (.slice (some ⟨rbz,roz,none⟩) xs.length kv)),(.e 5 (.I ((k+1:Nat):Int))),(.e 10 (.bool (((xs.length:Nat):Int) != ((xs.length:Nat):Int)))),(.e 14 (.bool (decide (((k:Nat):Int)<((xs.length:Nat):Int))))),(.e 25 (.bool false))] [] [] [] [([],(.I (IntKind.i64.wrap (((k:Nat):Int)+1))),(.I ((k+1:Nat):Int)))] hR hM mix (by kernel_rfl) (by kernel_rfl) (by kernel_rfl) (by kernel_rfl) trivial ⟨fun hg=>SX.wrap_ok (by omega),trivial⟩ (fun w' hb' hM'=>trivial) (fun w' hb' hM'=>trivial) ?_
   clear hR hM; intro a31 w32 hR hb33 hM
   replace hB:=hB.tr hb33
   exact ⟨xs.length-(k+1),by omega,k+1,rfl,by omega,hR.keep (ts:=[0,1,5,10]) (by kernel_rfl),hB,SX.cells_sub hM [] (by kernel_rfl),trivial⟩
  ·skip
   refine wp_exit ?_
   refine hK11 _ _ ?_
   refine wp_seq_k fun K34 hK34=>?_
   refine SX.region_q0 [.ld []] [0,1,4,5,10,14] [(.e 0 (.slice Au xs.length ku)),(.e 1 (.slice Av xs.length kv)),(.e 4 (.bool true)),(.e 5 (.I ((k:Nat):Int))),(.e 10 (.bool (((xs.length:Nat):Int) != ((xs.length:Nat):Int)))),(.e 14 (.bool (decide (((k:Nat):Int)<((xs.length:Nat):Int)))))] hR hM mix (by kernel_rfl) (by kernel_rfl) (by kernel_rfl) (by kernel_rfl) ?_
   clear hR hM; intro a35 w36 hR hb37 hM
   replace hB:=hB.tr hb37
   refine hK34 _ _ ?_
   refine wp_ret ?_
   try simp only [Exit.then,Exit.inBlock,Nat.reduceEqDiff,↓reduceIte]
   refine SX.ret_ 4 (.bool true) Try.results53 hR (by kernel_rfl) ?_
   clear hR hM mix hK1 hb4 hK5 hK6 hb9 hK11 hK12 hb15 hm18 hK19 hK20 hb23 hK34 hb37
   exact ⟨rfl,hB⟩

set_option maxHeartbeats 400000 in
theorem listP_any (u v:Value) (xs:List OpD) (w:World) (hu:OpsAt w u xs) (hv:OpsAt w v xs):Calls Try.prog 54 #[u,v] w fun e w'=>e=.returned (.bool (true))∧Below w.heap.size w w':=by
 have hu0:=hu
 have hv0:=hv
 obtain ⟨Au,ku,rfl,su⟩:=hu.shape
 obtain ⟨Av,kv,rfl,sv⟩:=hv.shape
 unfold Shape at su sv
 have mix:=mixed
 have hB:Below w.heap.size w w:=Below.refl _ _
 have hM:SX.Cells w []:=SX.cells_nil
 refine SX.enter [(.slice Au xs.length ku),(.slice Av xs.length kv)] 26 Try.func54 rfl rfl (by kernel_rfl) ?_
 intro a hR
 refine wp_seq_k fun K1 hK1=>?_
 refine SX.region_q0 [.ld []] [0,1,4] [(.e 0 (.slice Au xs.length ku)),(.e 1 (.slice Av xs.length kv)),(.e 4 (.bool false))] hR hM mix (by kernel_rfl) (by kernel_rfl) (by kernel_rfl) (by kernel_rfl) ?_
 clear hR hM; intro a2 w3 hR hb4 hM
 replace hB:=hB.tr hb4
 refine hK1 _ _ ?_
 refine wp_seq_k fun K5 hK5=>?_
 refine wp_seq_k fun K6 hK6=>?_
 refine SX.region_q0 [.ld [],.ld [],.ld [],.ld [],.ld []] [0,1,4,10] [(.e 0 (.slice Au xs.length ku)),(.e 1 (.slice Av xs.length kv)),(.e 4 (.bool false)),(.e 10 (.bool (((xs.length:Nat):Int) != ((xs.length:Nat):Int))))] hR hM mix (by kernel_rfl) (by kernel_rfl) (by kernel_rfl) (by kernel_rfl) ?_
 clear hR hM; intro a7 w8 hR hb9 hM
 replace hB:=hB.tr hb9
 refine hK6 _ _ ?_
 refine SX.cond_ (((xs.length:Nat):Int) != ((xs.length:Nat):Int)) hR (by kernel_rfl) (fun h10=>?_) (fun h10=>?_)
 ·skip
  exact absurd h10 (by simp)
 ·skip
  refine wp_skip ?_
  refine hK5 _ _ ?_
  refine wp_seq_k fun K11 hK11=>?_
  refine wp_seq_k fun K12 hK12=>?_
  refine SX.region_q0 [.ld []] [0,1,4,5,10] [(.e 0 (.slice Au xs.length ku)),(.e 1 (.slice Av xs.length kv)),(.e 4 (.bool false)),(.e 5 (.I 0)),(.e 10 (.bool (((xs.length:Nat):Int) != ((xs.length:Nat):Int))))] hR hM mix (by kernel_rfl) (by kernel_rfl) (by kernel_rfl) (by kernel_rfl) ?_
  clear hR hM; intro a13 w14 hR hb15 hM
  replace hB:=hB.tr hb15
  refine hK12 _ _ ?_
  refine wp_block ?_
  refine wp_loop_ghost (fun m18 a' w'=>∃ k:Nat,m18=xs.length-k∧k≤xs.length∧SX.RSt 26 [] [(.e 0 (.slice Au xs.length ku)),(.e 1 (.slice Av xs.length kv)),(.e 5 (.I ((k:Nat):Int))),(.e 10 (.bool (((xs.length:Nat):Int) != ((xs.length:Nat):Int))))] a'∧Below w.heap.size w w'∧SX.Cells w' []∧True) (xs.length-0) ⟨0,rfl,Nat.zero_le _,hR.keep (ts:=[0,1,5,10]) (by kernel_rfl),hB,hM,trivial⟩ ?_
  clear hR hM hB
  rintro m18 a16 w17 ⟨k,hm18,hlek,hR,hB,hM,hIk⟩
  refine wp_seq_k fun K19 hK19=>?_
  refine wp_seq_k fun K20 hK20=>?_
  refine SX.region_q0 [.ld [],.ld [],.ld [],.ld []] [0,1,5,10,14] [(.e 0 (.slice Au xs.length ku)),(.e 1 (.slice Av xs.length kv)),(.e 5 (.I ((k:Nat):Int))),(.e 10 (.bool (((xs.length:Nat):Int) != ((xs.length:Nat):Int)))),(.e 14 (.bool (decide (((k:Nat):Int)<((xs.length:Nat):Int)))))] hR hM mix (by kernel_rfl) (by kernel_rfl) (by kernel_rfl) (by kernel_rfl) ?_
  clear hR hM; intro a21 w22 hR hb23 hM
  replace hB:=hB.tr hb23
  refine hK20 _ _ ?_
  refine SX.cond_ (decide (((k:Nat):Int)<((xs.length:Nat):Int))) hR (by kernel_rfl) (fun h24=>?_) (fun h24=>?_)
  ·skip
   refine wp_skip ?_
   refine hK19 _ _ ?_
   refine wp_seq_k fun K25 hK25=>?_
   refine wp_block ?_
   refine wp_seq_k fun K26 hK26=>?_
   have hlt:k<xs.length:=lt_of_dec h24
   obtain ⟨y,hy⟩:=get_of_lt hlt
   obtain ⟨oby,ooy,hAy,hiy,co0y,co1y,co2y,co3y,co4y,co5y,co6y,co7y,co8y,co9y,co10y⟩:=hu0.elem hy
   subst hAy
   have hoy:oby<w.heap.size:=World.block_lt_of_cell? w _ co0y
   replace hM:=(SX.cells_add (cell_below hB co0y) (SX.cells_add (cell_below hB co1y) (SX.cells_add (cell_below hB co2y) (SX.cells_add (cell_below hB co3y) (SX.cells_add (cell_below hB co4y) (SX.cells_add (cell_below hB co5y) (SX.cells_add (cell_below hB co6y) (SX.cells_add (cell_below hB co7y) (SX.cells_add (cell_below hB co8y) (SX.cells_add (cell_below hB co9y) (SX.cells_add (cell_below hB co10y) hM)))))))))))
   obtain ⟨obz,ooz,hAz,hiz,co0z,co1z,co2z,co3z,co4z,co5z,co6z,co7z,co8z,co9z,co10z⟩:=hv0.elem hy
   subst hAz
   have hoz:obz<w.heap.size:=World.block_lt_of_cell? w _ co0z
   replace hM:=(SX.cells_add (cell_below hB co0z) (SX.cells_add (cell_below hB co1z) (SX.cells_add (cell_below hB co2z) (SX.cells_add (cell_below hB co3z) (SX.cells_add (cell_below hB co4z) (SX.cells_add (cell_below hB co5z) (SX.cells_add (cell_below hB co6z) (SX.cells_add (cell_below hB co7z) (SX.cells_add (cell_below hB co8z) (SX.cells_add (cell_below hB co9z) (SX.cells_add (cell_below hB co10z) hM)))))))))))
   refine SX.region_q [] [.ld [],.ld [],.ix ⟨oby,ooy+k*11,none⟩,.ld [11,12,13,14,15,16,17,18,19,20,21],.ld [],.ld [],.ix ⟨obz,ooz+k*11,none⟩,.ld [0,1,2,3,4,5,6,7,8,9,10],.hd (.bool false)] [0,1,5,10,14,25] [(.e 0 (.slice (some ⟨oby,ooy,none⟩) xs.length ku)),(.e 1 (.slice (some ⟨obz,ooz,none⟩) xs.length kv)),(.e 5 (.I ((k:Nat):Int))),(.e 10 (.bool (((xs.length:Nat):Int) != ((xs.length:Nat):Int)))),(.e 14 (.bool (decide (((k:Nat):Int)<((xs.length:Nat):Int))))),(.e 25 (.bool false))] [([],⟨oby,ooy,none⟩,xs.length,((k:Nat):Int),11,⟨oby,ooy+k*11,none⟩),([],⟨obz,ooz,none⟩,xs.length,((k:Nat):Int),11,⟨obz,ooz+k*11,none⟩)] [([],binS .neq 74 (.tmp 20) (.tmp 24) (.agg #[.I y.kind,.I y.dst,.I y.a,.I y.b,.I y.n,.I y.ctx,.I y.var,.I y.piece,.I y.sk,.I y.sv,.I y.sa]) (.agg #[.I y.kind,.I y.dst,.I y.a,.I y.b,.I y.n,.I y.ctx,.I y.var,.I y.piece,.I y.sk,.I y.sv,.I y.sa]),(.bool false))] [] [] hR hM mix (by kernel_rfl) (by kernel_rfl) (by kernel_rfl) (by kernel_rfl) ⟨fun hg=>SX.ix_ok (by omega),fun hg=>SX.ix_ok (by omega),trivial⟩ trivial (fun w' hb' hM'=>⟨fun hg=>self_ne74 _ _ _ _ _ _ _ _ _ _ _ _ _ _,trivial⟩) (fun w' hb' hM'=>trivial) ?_
   clear hR hM; intro a27 w28 hR hb29 hM
   replace hB:=hB.tr hb29
   refine hK26 _ _ ?_
   refine SX.cond_ false hR (by kernel_rfl) (fun h30=>nomatch h30) (fun h30=>?_)
   refine wp_skip ?_
   refine hK25 _ _ ?_
   refine SX.region_q [] [.ld [],.nm (.I ((k+1:Nat):Int)),.ld []] [0,1,5,10,14,25] [(.e 0 (.slice (some ⟨oby,ooy,none⟩) xs.length ku)),(.e 1 (.slice (some ⟨obz,ooz,none⟩) xs.length kv)),(.e 5 (.I ((k+1:Nat):Int))),(.e 10 (.bool (((xs.length:Nat):Int) != ((xs.length:Nat):Int)))),(.e 14 (.bool (decide (((k:Nat):Int)<((xs.length:Nat):Int))))),(.e 25 (.bool false))] [] [] [] [([],(.I (IntKind.i64.wrap (((k:Nat):Int)+1))),(.I ((k+1:Nat):Int)))] hR hM mix (by kernel_rfl) (by kernel_rfl) (by kernel_rfl) (by kernel_rfl) trivial ⟨fun hg=>SX.wrap_ok (by omega),trivial⟩ (fun w' hb' hM'=>trivial) (fun w' hb' hM'=>trivial) ?_
   clear hR hM; intro a31 w32 hR hb33 hM
   replace hB:=hB.tr hb33
   exact ⟨xs.length-(k+1),by omega,k+1,rfl,by omega,hR.keep (ts:=[0,1,5,10]) (by kernel_rfl),hB,SX.cells_sub hM [] (by kernel_rfl),trivial⟩
  ·skip
   refine wp_exit ?_
   refine hK11 _ _ ?_
   refine wp_seq_k fun K34 hK34=>?_
   refine SX.region_q0 [.ld []] [0,1,4,5,10,14] [(.e 0 (.slice Au xs.length ku)),(.e 1 (.slice Av xs.length kv)),(.e 4 (.bool true)),(.e 5 (.I ((k:Nat):Int))),(.e 10 (.bool (((xs.length:Nat):Int) != ((xs.length:Nat):Int)))),(.e 14 (.bool (decide (((k:Nat):Int)<((xs.length:Nat):Int)))))] hR hM mix (by kernel_rfl) (by kernel_rfl) (by kernel_rfl) (by kernel_rfl) ?_
   clear hR hM; intro a35 w36 hR hb37 hM
   replace hB:=hB.tr hb37
   refine hK34 _ _ ?_
   refine wp_ret ?_
   try simp only [Exit.then,Exit.inBlock,Nat.reduceEqDiff,↓reduceIte]
   refine SX.ret_ 4 (.bool true) Try.results54 hR (by kernel_rfl) ?_
   clear hR hM mix hK1 hb4 hK5 hK6 hb9 hK11 hK12 hb15 hm18 hK19 hK20 hb23 hK34 hb37
   exact ⟨rfl,hB⟩
end Go.Proofs.Ytlkcidmmpeebeaa
