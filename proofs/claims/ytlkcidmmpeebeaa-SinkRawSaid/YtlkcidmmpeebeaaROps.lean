/- Proved: ref06.ops -/
import Derived.Test.YtlkcidmmpeebeaaValues
import Derived.Test.YtlkcidmmpeebeaaScC
set_option linter.unusedVariables false
set_option linter.unusedSimpArgs false
namespace Go.Proofs.Ytlkcidmmpeebeaa
open Go.RowKit
set_option maxRecDepth 100000
def stepB (c:CodeD) (params:Int) (all K:List Int) (o:OpD):Bool:=R.head K o&&(!R.defines o.kind||!(decide (o.dst<params)||decide (9999<o.dst)||R.has K o.dst))&&R.tail c all o
theorem opsFrom_all (c:CodeD) (params:Int) (all:List Int):∀ (os pre:List OpD),R.opsFrom c params all (R.upto params++dsts pre) os=R.allAt os (fun i o=>stepB c params all (R.upto params++dsts (pre++os.take i)) o)
 | [],pre=>rfl
 | o::os,pre=>by
  have ih:=opsFrom_all c params all os (pre++[o])
  have e1:(if R.defines o.kind then R.upto params++dsts pre++[o.dst] else R.upto params++dsts pre)=R.upto params++dsts (pre++[o]):=by
   rw [dsts_snoc]; split <;> simp
  unfold R.allAt at ih ⊢
  rw [List.length_cons,range_succ_all,R.opsFrom,e1,ih]
  simp only [List.getElem?_cons_zero,List.getElem?_cons_succ,List.take_succ_cons,List.take_zero,List.append_nil,List.append_assoc,List.singleton_append]
  rfl
theorem ops_all (c:CodeD) (b:BlockD):R.ops c b=R.allAt b.ops (fun i o=>stepB c b.params (R.values b) (R.upto b.params++dsts (b.ops.take i)) o):=by
 have h:=opsFrom_all c b.params (R.values b) b.ops []
 have e0:R.upto b.params++dsts []=R.upto b.params:=by simp [dsts]
 rw [e0] at h
 unfold R.ops; rw [h]; rfl
theorem not_in (n:Int) (m:Nat):(decide (n<0)||decide ((m:Int)≤n))=!(decide (0≤n)&&decide (n<(m:Int))):=by rw [Bool.eq_iff_iff]; simp <;> try omega
theorem tail_obj {c:CodeD} {all:List Int} {o:OpD} (h:(o.kind==15||o.kind==16||o.kind==17)=true):R.tail c all o=!(decide (o.n<0)||decide (((c.objects.length:Nat):Int)≤o.n)):=by
 unfold R.tail; rw [if_pos h,not_in]; simp
theorem tail_mark {c:CodeD} {all:List Int} {o:OpD} (h0:(o.kind==15||o.kind==16||o.kind==17)=false) (h:(o.kind==19||o.kind==20)=true):R.tail c all o=!(((decide (o.n<0)||decide (9999<o.n))||decide (o.ctx<0))||decide (((c.contexts.length:Nat):Int)≤o.ctx)):=by
 unfold R.tail; rw [if_neg (by rw [h0]; simp),if_pos h,Bool.eq_iff_iff]; simp <;> try omega
theorem tail_bind {c:CodeD} {all:List Int} {o:OpD} (h0:(o.kind==15||o.kind==16||o.kind==17)=false) (h1:(o.kind==19||o.kind==20)=false) (h:(o.kind==21)=true):R.tail c all o=!((((((decide (o.ctx<0)||decide (((c.contexts.length:Nat):Int)≤o.ctx))||decide (o.var<0))||decide (24≤o.var))||decide (o.piece<0))||decide (4≤o.piece))||(!R.source c o all)):=by
 unfold R.tail; rw [if_neg (by rw [h0]; simp),if_neg (by rw [h1]; simp),if_pos h]
 cases R.source c o all <;> (rw [Bool.eq_iff_iff]; simp; try omega)
theorem tail_else {c:CodeD} {all:List Int} {o:OpD} (h0:(o.kind==15||o.kind==16||o.kind==17)=false) (h1:(o.kind==19||o.kind==20)=false) (h:(o.kind==21)=false):R.tail c all o=true:=by
 unfold R.tail; rw [if_neg (by rw [h0]; simp),if_neg (by rw [h1]; simp),if_neg (by rw [h]; simp)]

set_option maxHeartbeats 1000000 in
theorem refOps_any (c:CodeD) (v1 v2 v3:Value) (w:World) (h:CodeAt w v1 v2 v3 c) (b:BlockD) (u1 u2 u3 u4:Value) (hb:BlkAt w u1 u2 u3 u4 b) (hbp:0≤b.params∧b.params≤999) (hol:b.ops.length≤6000):Calls Try.prog 58 #[(.agg #[.I c.params,v1,v2,v3]),(.agg #[.I b.params,u1,.I b.term.kind,.I b.term.a,.I b.term.n,u2,.I b.term.b0,u3,.I b.term.b1,u4])] w fun e w'=>e=.returned (.bool (R.ops c b))∧Below w.heap.size w w':=by
 have h0:=h
 obtain ⟨A1,k1,rfl,s1⟩:=h.2.1.shape
 obtain ⟨A2,k2,rfl,s2⟩:=h.2.2.1.shape
 obtain ⟨A3,k3,rfl,s3⟩:=h.2.2.2.shape
 unfold Shape at s1 s2 s3
 have hb0:=hb
 obtain ⟨B1,j1,rfl,t1⟩:=hb.2.1.shape
 obtain ⟨B2,j2,rfl,t2⟩:=hb.2.2.1.shape
 obtain ⟨B3,j3,rfl,t3⟩:=hb.2.2.2.1.shape
 obtain ⟨B4,j4,rfl,t4⟩:=hb.2.2.2.2.shape
 unfold Shape at t1 t2 t3 t4
 have mix:=mixed
 have hB:Below w.heap.size w w:=Below.refl _ _
 have hM:SX.Cells w []:=SX.cells_nil
 refine SX.enter [(.agg #[.I c.params,.slice A1 c.blocks.length k1,.slice A2 c.contexts.length k2,.slice A3 c.objects.length k3]),(.agg #[.I b.params,.slice B1 b.ops.length j1,.I b.term.kind,.I b.term.a,.I b.term.n,.slice B2 b.term.args.length j2,.I b.term.b0,.slice B3 b.term.args0.length j3,.I b.term.b1,.slice B4 b.term.args1.length j4])] 173 Try.func58 rfl rfl (by kernel_rfl) ?_
 intro a hR
 refine wp_seq_k fun K1 hK1=>?_
 refine SX.region_l ?_
 obtain ⟨n5,hn5⟩:∃ n,w.heap.size=n:=⟨_,rfl⟩
 have hzn5:w.heap.size≤n5:=by have:=hB.size; omega
 refine SX.list_box 0 n5 [(.I c.params),(.slice A1 c.blocks.length k1),(.slice A2 c.contexts.length k2),(.slice A3 c.objects.length k3)] 26 ((.e 2 (.P n5))::[(.e 0 (.agg #[.I c.params,.slice A1 c.blocks.length k1,.slice A2 c.contexts.length k2,.slice A3 c.objects.length k3])),(.e 1 (.agg #[.I b.params,.slice B1 b.ops.length j1,.I b.term.kind,.I b.term.a,.I b.term.n,.slice B2 b.term.args.length j2,.I b.term.b0,.slice B3 b.term.args0.length j3,.I b.term.b1,.slice B4 b.term.args1.length j4]))]) [(⟨n5,0,none⟩,(.I c.params)),(⟨n5,1,none⟩,(.slice A1 c.blocks.length k1)),(⟨n5,2,none⟩,(.slice A2 c.contexts.length k2)),(⟨n5,3,none⟩,(.slice A3 c.objects.length k3))] hR hM hn5 (by kernel_rfl) (by kernel_rfl) ?_
 clear hR hM; intro a2 w3 hR hb4 hM hkn5 hln5
 replace hB:=hB.tr hb4
 replace hR:SX.RSt 173 [] [(.e 1 (.agg #[.I b.params,.slice B1 b.ops.length j1,.I b.term.kind,.I b.term.a,.I b.term.n,.slice B2 b.term.args.length j2,.I b.term.b0,.slice B3 b.term.args0.length j3,.I b.term.b1,.slice B4 b.term.args1.length j4])),(.e 2 (.P n5))] a2:=hR.keep (ts:=[1,2]) (by kernel_rfl)
 obtain ⟨n9,hn9⟩:∃ n,w3.heap.size=n:=⟨_,rfl⟩
 have hzn9:w.heap.size≤n9:=by have:=hB.size; omega
 have qn5n9:n5<n9:=by have:=(Array.getElem?_eq_some_iff.1 hkn5).1; omega
 refine SX.list_box 1 n9 [(.I b.params),(.slice B1 b.ops.length j1),(.I b.term.kind),(.I b.term.a),(.I b.term.n),(.slice B2 b.term.args.length j2),(.I b.term.b0),(.slice B3 b.term.args0.length j3),(.I b.term.b1),(.slice B4 b.term.args1.length j4)] 62 ((.e 3 (.P n9))::[(.e 1 (.agg #[.I b.params,.slice B1 b.ops.length j1,.I b.term.kind,.I b.term.a,.I b.term.n,.slice B2 b.term.args.length j2,.I b.term.b0,.slice B3 b.term.args0.length j3,.I b.term.b1,.slice B4 b.term.args1.length j4])),(.e 2 (.P n5))]) [(⟨n9,0,none⟩,(.I b.params)),(⟨n9,1,none⟩,(.slice B1 b.ops.length j1)),(⟨n9,2,none⟩,(.I b.term.kind)),(⟨n9,3,none⟩,(.I b.term.a)),(⟨n9,4,none⟩,(.I b.term.n)),(⟨n9,5,none⟩,(.slice B2 b.term.args.length j2)),(⟨n9,6,none⟩,(.I b.term.b0)),(⟨n9,7,none⟩,(.slice B3 b.term.args0.length j3)),(⟨n9,8,none⟩,(.I b.term.b1)),(⟨n9,9,none⟩,(.slice B4 b.term.args1.length j4)),(⟨n5,0,none⟩,(.I c.params)),(⟨n5,1,none⟩,(.slice A1 c.blocks.length k1)),(⟨n5,2,none⟩,(.slice A2 c.contexts.length k2)),(⟨n5,3,none⟩,(.slice A3 c.objects.length k3))] hR hM hn9 (by kernel_rfl) (by kernel_rfl) ?_
 clear hR hM; intro a6 w7 hR hb8 hM hkn9 hln9
 replace hB:=hB.tr hb8
 replace hkn5:=SX.blk_below hkn5 hb8
 replace hR:SX.RSt 173 [] [(.e 2 (.P n5)),(.e 3 (.P n9))] a6:=hR.keep (ts:=[2,3]) (by kernel_rfl)
 refine SX.list_q0 (κ:=[]) 2 1 [.ld []] [2,3] [(.e 2 (.P n5)),(.e 3 (.P n9))] hR hM (by kernel_rfl) (by kernel_rfl) ?_
 clear hR hM; intro a10 w11 hR hb12 hM
 replace hB:=hB.tr hb12
 replace hkn5:=SX.blk_below hkn5 hb12
 replace hkn9:=SX.blk_below hkn9 hb12
 refine SX.list_end 3 (by kernel_rfl) ?_
 refine hK1 _ _ ?_
 refine wp_seq_k fun K13 hK13=>?_
 refine SX.region_l ?_
 refine SX.list_q0 (κ:=[]) 0 1 [.ld [0,1,2,3,4,5,6,7,8,9]] [2,3,10] [(.e 2 (.P n5)),(.e 3 (.P n9)),(.e 10 (.agg #[.I b.params,.slice B1 b.ops.length j1,.I b.term.kind,.I b.term.a,.I b.term.n,.slice B2 b.term.args.length j2,.I b.term.b0,.slice B3 b.term.args0.length j3,.I b.term.b1,.slice B4 b.term.args1.length j4]))] hR hM (by kernel_rfl) (by kernel_rfl) ?_
 clear hR hM; intro a14 w15 hR hb16 hM
 replace hB:=hB.tr hb16
 replace hkn5:=SX.blk_below hkn5 hb16
 replace hkn9:=SX.blk_below hkn9 hb16
 have hlwn5:=(Array.getElem?_eq_some_iff.1 hkn5).1
 have hlwn9:=(Array.getElem?_eq_some_iff.1 hkn9).1
 refine SX.list_callR 1 11 86 #[(.agg #[.I b.params,.slice B1 b.ops.length j1,.I b.term.kind,.I b.term.a,.I b.term.n,.slice B2 b.term.args.length j2,.I b.term.b0,.slice B3 b.term.args0.length j3,.I b.term.b1,.slice B4 b.term.args1.length j4])] hR (by kernel_rfl) (by kernel_rfl) (values_any _ b _ _ _ _ (hb0.below hB) hbp hol) ?_
 clear hR; intro v20 a21 w22 hR hb23 hphi; replace hM:=hM.below hb23
 replace hB:=hB.tr hb23
 replace hkn5:=SX.blk_below hkn5 hb23
 replace hkn9:=SX.blk_below hkn9 hb23
 obtain ⟨hal,_⟩:=hphi
 obtain ⟨Al,ka,rfl,sal⟩:=hal.shape
 replace hR:SX.RSt 173 [] [(.e 2 (.P n5)),(.e 3 (.P n9)),(.e 11 (.slice Al ((R.values b).length) ka))] a21:=hR.keep (ts:=[2,3,11]) (by kernel_rfl)
 refine SX.list_q0 (κ:=[]) 2 1 [.ld []] [2,3,5] [(.e 2 (.P n5)),(.e 3 (.P n9)),(.e 5 (.slice Al ((R.values b).length) ka))] hR hM (by kernel_rfl) (by kernel_rfl) ?_
 clear hR hM; intro a24 w25 hR hb26 hM
 replace hB:=hB.tr hb26
 replace hal:=hal.below hb26
 replace hkn5:=SX.blk_below hkn5 hb26
 replace hkn9:=SX.blk_below hkn9 hb26
 refine SX.list_end 3 (by kernel_rfl) ?_
 have hBr:=hB
 replace h0:=h0.below hBr
 replace hb0:=hb0.below hBr
 clear hB; have hB:Below w25.heap.size w25 w25:=Below.refl _ _
 refine hK13 _ _ ?_
 refine wp_seq_k fun K27 hK27=>?_
 refine SX.region_q0 [.ld []] [2,3,5,6] [(.e 2 (.P n5)),(.e 3 (.P n9)),(.e 5 (.slice Al ((R.values b).length) ka)),(.e 6 (.slice none 0 0))] hR hM mix (by kernel_rfl) (by kernel_rfl) (by kernel_rfl) (by kernel_rfl) ?_
 clear hR hM; intro a28 w29 hR hb30 hM
 replace hB:=hB.tr hb30
 replace hkn5:=SX.blk_below hkn5 hb30
 replace hkn9:=SX.blk_below hkn9 hb30
 obtain ⟨Bk,hBk⟩:∃ n,w29.heap.size=n:=⟨_,rfl⟩
 have hzBk:w25.heap.size≤Bk:=by have:=hB.size; omega
 have qn5Bk:n5<Bk:=by have:=(Array.getElem?_eq_some_iff.1 hkn5).1; omega
 have qn9Bk:n9<Bk:=by have:=(Array.getElem?_eq_some_iff.1 hkn9).1; omega
 have hkn:IntsOwn w29 Bk (.slice none 0 0) []:=IntsOwn.nil (by omega)
 clear hBk
 refine hK27 _ _ ?_
 refine wp_seq_k fun K31 hK31=>?_
 refine wp_seq_k fun K32 hK32=>?_
 refine SX.region_q0 [.ld []] [2,3,5,6,7] [(.e 2 (.P n5)),(.e 3 (.P n9)),(.e 5 (.slice Al ((R.values b).length) ka)),(.e 6 (.slice none 0 0)),(.e 7 (.I 0))] hR hM mix (by kernel_rfl) (by kernel_rfl) (by kernel_rfl) (by kernel_rfl) ?_
 clear hR hM; intro a33 w34 hR hb35 hM
 replace hB:=hB.tr hb35
 replace hkn:=hkn.below hb35
 replace hkn5:=SX.blk_below hkn5 hb35
 replace hkn9:=SX.blk_below hkn9 hb35
 refine hK32 _ _ ?_
 refine wp_block ?_
 refine wp_loop_ghost (fun m38 a' w'=>∃ k:Nat,∃ v:Value,m38=b.params.toNat-k∧k≤b.params.toNat∧SX.RSt 173 [] [(.e 2 (.P n5)),(.e 3 (.P n9)),(.e 5 (.slice Al ((R.values b).length) ka)),(.e 6 v),(.e 7 (.I ((k:Nat):Int)))] a'∧Below w25.heap.size w25 w'∧SX.Cells w' [(⟨n9,0,none⟩,(.I b.params)),(⟨n9,1,none⟩,(.slice B1 b.ops.length j1)),(⟨n9,2,none⟩,(.I b.term.kind)),(⟨n9,3,none⟩,(.I b.term.a)),(⟨n9,4,none⟩,(.I b.term.n)),(⟨n9,5,none⟩,(.slice B2 b.term.args.length j2)),(⟨n9,6,none⟩,(.I b.term.b0)),(⟨n9,7,none⟩,(.slice B3 b.term.args0.length j3)),(⟨n9,8,none⟩,(.I b.term.b1)),(⟨n9,9,none⟩,(.slice B4 b.term.args1.length j4)),(⟨n5,0,none⟩,(.I c.params)),(⟨n5,1,none⟩,(.slice A1 c.blocks.length k1)),(⟨n5,2,none⟩,(.slice A2 c.contexts.length k2)),(⟨n5,3,none⟩,(.slice A3 c.objects.length k3))]∧IntsOwn w' Bk v (uptoN (k))) (b.params.toNat-0) ⟨0,(.slice none 0 0),rfl,Nat.zero_le _,hR.keep (ts:=[2,3,5,6,7]) (by kernel_rfl),hB,hM,hkn⟩ ?_
 clear hR hM hB
 rintro m38 a36 w37 ⟨k,v,hm38,hlek,hR,hB,hM,hIk⟩
 have hkn:=hIk
 refine wp_seq_k fun K39 hK39=>?_
 refine wp_seq_k fun K40 hK40=>?_
 refine SX.region_q0 [.ld [],.ld [],.ld [0],.ld []] [2,3,5,6,7,15] [(.e 2 (.P n5)),(.e 3 (.P n9)),(.e 5 (.slice Al ((R.values b).length) ka)),(.e 6 v),(.e 7 (.I ((k:Nat):Int))),(.e 15 (.bool (decide (((k:Nat):Int)<b.params))))] hR hM mix (by kernel_rfl) (by kernel_rfl) (by kernel_rfl) (by kernel_rfl) ?_
 clear hR hM; intro a41 w42 hR hb43 hM
 replace hB:=hB.tr hb43
 replace hkn:=hkn.below hb43
 refine hK40 _ _ ?_
 refine SX.cond_ (decide (((k:Nat):Int)<b.params)) hR (by kernel_rfl) (fun h44=>?_) (fun h44=>?_)
 ·skip
  refine wp_skip ?_
  refine hK39 _ _ ?_
  refine wp_seq_k fun K45 hK45=>?_
  refine wp_block ?_
  have hlt:k<b.params.toNat:=by have:=of_decide_eq_true h44; omega
  refine SX.region_l ?_
  refine SX.list_q0 (κ:=[]) 0 2 [.ld [],.ld []] [2,3,5,6,7,18,19] [(.e 2 (.P n5)),(.e 3 (.P n9)),(.e 5 (.slice Al ((R.values b).length) ka)),(.e 6 v),(.e 7 (.I ((k:Nat):Int))),(.e 18 v),(.e 19 (.I ((k:Nat):Int)))] hR hM (by kernel_rfl) (by kernel_rfl) ?_
  clear hR hM; intro a46 w47 hR hb48 hM
  replace hB:=hB.tr hb48
  replace hkn:=hkn.below hb48
  obtain ⟨n52,hn52⟩:∃ n,w47.heap.size=n:=⟨_,rfl⟩
  have hzn52:w25.heap.size≤n52:=by have:=hB.size; omega
  have hgn52hkn:=hkn.lt hn52
  refine SX.list_box 2 n52 [(.I ((k:Nat):Int))] 3 ((.e 20 (.slice (some ⟨n52,0,none⟩) 1 1))::[(.e 2 (.P n5)),(.e 3 (.P n9)),(.e 5 (.slice Al ((R.values b).length) ka)),(.e 6 v),(.e 7 (.I ((k:Nat):Int))),(.e 18 v),(.e 19 (.I ((k:Nat):Int)))]) [(⟨n52,0,none⟩,(.I ((k:Nat):Int))),(⟨n9,0,none⟩,(.I b.params)),(⟨n9,1,none⟩,(.slice B1 b.ops.length j1)),(⟨n9,2,none⟩,(.I b.term.kind)),(⟨n9,3,none⟩,(.I b.term.a)),(⟨n9,4,none⟩,(.I b.term.n)),(⟨n9,5,none⟩,(.slice B2 b.term.args.length j2)),(⟨n9,6,none⟩,(.I b.term.b0)),(⟨n9,7,none⟩,(.slice B3 b.term.args0.length j3)),(⟨n9,8,none⟩,(.I b.term.b1)),(⟨n9,9,none⟩,(.slice B4 b.term.args1.length j4)),(⟨n5,0,none⟩,(.I c.params)),(⟨n5,1,none⟩,(.slice A1 c.blocks.length k1)),(⟨n5,2,none⟩,(.slice A2 c.contexts.length k2)),(⟨n5,3,none⟩,(.slice A3 c.objects.length k3))] hR hM hn52 (by kernel_rfl) (by kernel_rfl) ?_
  clear hR hM; intro a49 w50 hR hb51 hM hkn52 hln52
  replace hB:=hB.tr hb51
  replace hkn:=hkn.below hb51
  replace hR:SX.RSt 173 [] [(.e 2 (.P n5)),(.e 3 (.P n9)),(.e 5 (.slice Al ((R.values b).length) ka)),(.e 6 v),(.e 7 (.I ((k:Nat):Int))),(.e 18 v),(.e 20 (.slice (some ⟨n52,0,none⟩) 1 1))] a49:=hR.keep (ts:=[2,3,5,6,7,18,20]) (by kernel_rfl)
  obtain ⟨v53,w54,hrun,hown2,hgr56⟩:=appI_run hkn n52 ((k:Nat):Int) (hM (⟨n52,0,none⟩,(.I ((k:Nat):Int))) (SX.mget_mem (i:=0) (by kernel_rfl))) (by unfold I64; omega) (by rw [uptoN_len]; omega)
  refine SX.list_run 3 (some 21) (appS 35 35 v (.slice (some ⟨n52,0,none⟩) 1 1)) v53 hR (by kernel_rfl) (by kernel_rfl) hrun ?_
  clear hR hrun; intro a55 hR
  have hgee57:=hkn.ge
  have hqn52e57:∀ g,v.ownBlock=some g→n52≠g:=fun g hg=>by have h1:=hgee57 g hg; have h2:=hgn52hkn g hg; omega
  have hqn9e57:∀ g,v.ownBlock=some g→n9≠g:=fun g hg=>by have h1:=hgee57 g hg; omega
  have hqn5e57:∀ g,v.ownBlock=some g→n5≠g:=fun g hg=>by have h1:=hgee57 g hg; omega
  replace hB:=hB.grown hgr56 hB.size (fun g hg=>by have h1:=hgee57 g hg; omega)
  replace hM:=cells_grown hM hgr56 (gne_cons hqn52e57 (gne_cons hqn9e57 (gne_cons hqn9e57 (gne_cons hqn9e57 (gne_cons hqn9e57 (gne_cons hqn9e57 (gne_cons hqn9e57 (gne_cons hqn9e57 (gne_cons hqn9e57 (gne_cons hqn9e57 (gne_cons hqn9e57 (gne_cons hqn5e57 (gne_cons hqn5e57 (gne_cons hqn5e57 (gne_cons hqn5e57 gne_nil)))))))))))))))
  replace hkn52:=(hgr56.block _ (Array.getElem?_eq_some_iff.1 hkn52).1 (fun e=>(show ∀ g,v.ownBlock=some g→n52≠g from fun g hg=>by have h1:=hgee57 g hg; have h2:=hgn52hkn g hg; omega) _ e.symm rfl)).trans hkn52
  clear hkn; have hkn:=hown2; clear hown2
  replace hR:SX.RSt 173 [] [(.e 2 (.P n5)),(.e 3 (.P n9)),(.e 5 (.slice Al ((R.values b).length) ka)),(.e 6 v),(.e 7 (.I ((k:Nat):Int))),(.e 21 v53)] a55:=hR.keep (ts:=[2,3,5,6,7,21]) (by kernel_rfl)
  refine SX.list_q0 (κ:=[]) 4 1 [.ld []] [2,3,5,6,7] [(.e 2 (.P n5)),(.e 3 (.P n9)),(.e 5 (.slice Al ((R.values b).length) ka)),(.e 6 v53),(.e 7 (.I ((k:Nat):Int)))] hR hM (by kernel_rfl) (by kernel_rfl) ?_
  clear hR hM; intro a58 w59 hR hb60 hM
  replace hB:=hB.tr hb60
  replace hkn:=hkn.below hb60
  replace hkn52:=SX.blk_below hkn52 hb60
  refine SX.list_end 5 (by kernel_rfl) ?_
  refine hK45 _ _ ?_
  refine SX.region_q [] [.ld [],.nm (.I ((k+1:Nat):Int)),.ld []] [2,3,5,6,7] [(.e 2 (.P n5)),(.e 3 (.P n9)),(.e 5 (.slice Al ((R.values b).length) ka)),(.e 6 v53),(.e 7 (.I ((k+1:Nat):Int)))] [] [] [] [([],(.I (IntKind.i64.wrap (((k:Nat):Int)+1))),(.I ((k+1:Nat):Int)))] hR hM mix (by kernel_rfl) (by kernel_rfl) (by kernel_rfl) (by kernel_rfl) trivial ⟨fun hg=>SX.wrap_ok (by omega),trivial⟩ (fun w' hb' hM'=>trivial) (fun w' hb' hM'=>trivial) ?_
  clear hR hM; intro a61 w62 hR hb63 hM
  replace hB:=hB.tr hb63
  replace hkn:=hkn.below hb63
  replace hkn52:=SX.blk_below hkn52 hb63
  exact ⟨b.params.toNat-(k+1),by omega,k+1,v53,rfl,by omega,hR.keep (ts:=[2,3,5,6,7]) (by kernel_rfl),hB,SX.cells_sub hM [1,2,3,4,5,6,7,8,9,10,11,12,13,14] (by kernel_rfl),by rw [uptoN_succ]; exact hkn⟩
 ·skip
  refine wp_exit ?_
  refine hK31 _ _ ?_
  refine wp_seq_k fun K64 hK64=>?_
  refine wp_seq_k fun K65 hK65=>?_
  obtain rfl:k=b.params.toNat:=by have:=of_decide_eq_false h44; omega
  rw [← upto_eq] at hkn
  refine SX.region_q0 [.ld [],.ld [1],.ld [],.ld []] [2,3,5,6,7,23,24,25] [(.e 2 (.P n5)),(.e 3 (.P n9)),(.e 5 (.slice Al ((R.values b).length) ka)),(.e 6 v),(.e 7 (.I ((b.params.toNat:Nat):Int))),(.e 23 (.slice B1 b.ops.length j1)),(.e 24 (.I ((b.ops.length:Nat):Int))),(.e 25 (.I 0))] hR hM mix (by kernel_rfl) (by kernel_rfl) (by kernel_rfl) (by kernel_rfl) ?_
  clear hR hM; intro a66 w67 hR hb68 hM
  replace hB:=hB.tr hb68
  replace hkn:=hkn.below hb68
  refine hK65 _ _ ?_
  refine wp_block ?_
  refine wp_loop_ghost (fun m71 a' w'=>∃ j:Nat,∃ v:Value,m71=b.ops.length-j∧j≤b.ops.length∧SX.RSt 173 [] [(.e 2 (.P n5)),(.e 3 (.P n9)),(.e 5 (.slice Al ((R.values b).length) ka)),(.e 6 v),(.e 7 (.I ((b.params.toNat:Nat):Int))),(.e 23 (.slice B1 b.ops.length j1)),(.e 24 (.I ((b.ops.length:Nat):Int))),(.e 25 (.I ((j:Nat):Int)))] a'∧Below w25.heap.size w25 w'∧SX.Cells w' [(⟨n9,0,none⟩,(.I b.params)),(⟨n9,1,none⟩,(.slice B1 b.ops.length j1)),(⟨n9,2,none⟩,(.I b.term.kind)),(⟨n9,3,none⟩,(.I b.term.a)),(⟨n9,4,none⟩,(.I b.term.n)),(⟨n9,5,none⟩,(.slice B2 b.term.args.length j2)),(⟨n9,6,none⟩,(.I b.term.b0)),(⟨n9,7,none⟩,(.slice B3 b.term.args0.length j3)),(⟨n9,8,none⟩,(.I b.term.b1)),(⟨n9,9,none⟩,(.slice B4 b.term.args1.length j4)),(⟨n5,0,none⟩,(.I c.params)),(⟨n5,1,none⟩,(.slice A1 c.blocks.length k1)),(⟨n5,2,none⟩,(.slice A2 c.contexts.length k2)),(⟨n5,3,none⟩,(.slice A3 c.objects.length k3))]∧(IntsOwn w' Bk v (R.upto b.params++dsts (b.ops.take (j)))∧Upto b.ops (fun i o=>stepB c b.params (R.values b) (R.upto b.params++dsts (b.ops.take i)) o) (j))) (b.ops.length-0) ⟨0,v,rfl,Nat.zero_le _,hR.keep (ts:=[2,3,5,6,7,23,24,25]) (by kernel_rfl),hB,hM,⟨by rw [List.take_zero]; simpa [dsts] using hkn,Upto.zero⟩⟩ ?_
  clear hR hM hB
  rintro m71 a69 w70 ⟨j,v,hm71,hlej,hR,hB,hM,hIj⟩
  obtain ⟨hkn,hup⟩:=hIj
  refine wp_seq_k fun K72 hK72=>?_
  refine SX.region_q0 [.ld []] [2,3,5,6,7,23,24,25,26] [(.e 2 (.P n5)),(.e 3 (.P n9)),(.e 5 (.slice Al ((R.values b).length) ka)),(.e 6 v),(.e 7 (.I ((b.params.toNat:Nat):Int))),(.e 23 (.slice B1 b.ops.length j1)),(.e 24 (.I ((b.ops.length:Nat):Int))),(.e 25 (.I ((j:Nat):Int))),(.e 26 (.bool (decide (((j:Nat):Int)<((b.ops.length:Nat):Int)))))] hR hM mix (by kernel_rfl) (by kernel_rfl) (by kernel_rfl) (by kernel_rfl) ?_
  clear hR hM; intro a73 w74 hR hb75 hM
  replace hB:=hB.tr hb75
  replace hkn:=hkn.below hb75
  refine hK72 _ _ ?_
  refine wp_seq_k fun K76 hK76=>?_
  refine SX.cond_ (decide (((j:Nat):Int)<((b.ops.length:Nat):Int))) hR (by kernel_rfl) (fun h77=>?_) (fun h77=>?_)
  ·skip
   refine wp_skip ?_
   refine hK76 _ _ ?_
   refine wp_seq_k fun K78 hK78=>?_
   refine wp_block ?_
   refine wp_seq_k fun K79 hK79=>?_
   have hlt:j<b.ops.length:=lt_of_dec h77
   obtain ⟨y,hy⟩:=get_of_lt hlt
   obtain ⟨oby,ooy,hAy,hiy,co0y,co1y,co2y,co3y,co4y,co5y,co6y,co7y,co8y,co9y,co10y⟩:=hb0.2.1.elem hy
   subst hAy
   have hoy:oby<w25.heap.size:=World.block_lt_of_cell? w25 _ co0y
   replace hM:=(SX.cells_add (cell_below hB co0y) (SX.cells_add (cell_below hB co1y) (SX.cells_add (cell_below hB co2y) (SX.cells_add (cell_below hB co3y) (SX.cells_add (cell_below hB co4y) (SX.cells_add (cell_below hB co5y) (SX.cells_add (cell_below hB co6y) (SX.cells_add (cell_below hB co7y) (SX.cells_add (cell_below hB co8y) (SX.cells_add (cell_below hB co9y) (SX.cells_add (cell_below hB co10y) hM)))))))))))
   refine SX.region_l ?_
   refine SX.list_q (κ:=[]) 0 2 [.ix ⟨oby,ooy+j*11,none⟩,.ld [0,1,2,3,4,5,6,7,8,9,10]] [2,3,5,6,7,23,24,25,28] [(.e 2 (.P n5)),(.e 3 (.P n9)),(.e 5 (.slice Al ((R.values b).length) ka)),(.e 6 v),(.e 7 (.I ((b.params.toNat:Nat):Int))),(.e 23 (.slice (some ⟨oby,ooy,none⟩) b.ops.length j1)),(.e 24 (.I ((b.ops.length:Nat):Int))),(.e 25 (.I ((j:Nat):Int))),(.e 28 (.agg #[.I y.kind,.I y.dst,.I y.a,.I y.b,.I y.n,.I y.ctx,.I y.var,.I y.piece,.I y.sk,.I y.sv,.I y.sa]))] [([],⟨oby,ooy,none⟩,b.ops.length,((j:Nat):Int),11,⟨oby,ooy+j*11,none⟩)] [] [] [] hR hM (by kernel_rfl) (by kernel_rfl) ⟨fun hg=>SX.ix_ok (by omega),trivial⟩ trivial (fun w' hb' hM'=>trivial) (fun w' hb' hM'=>trivial) ?_
   clear hR hM; intro a80 w81 hR hb82 hM
   replace hB:=hB.tr hb82
   replace hkn:=hkn.below hb82
   obtain ⟨n86,hn86⟩:∃ n,w81.heap.size=n:=⟨_,rfl⟩
   have hzn86:w25.heap.size≤n86:=by have:=hB.size; omega
   have hgn86hkn:=hkn.lt hn86
   refine SX.list_alloc 2 n86 [(.I 0),(.I 0),(.I 0),(.I 0),(.I 0),(.I 0),(.I 0),(.I 0),(.I 0),(.I 0),(.I 0)] 74 ((.e 9 (.P n86))::[(.e 2 (.P n5)),(.e 3 (.P n9)),(.e 5 (.slice Al ((R.values b).length) ka)),(.e 6 v),(.e 7 (.I ((b.params.toNat:Nat):Int))),(.e 23 (.slice (some ⟨oby,ooy,none⟩) b.ops.length j1)),(.e 24 (.I ((b.ops.length:Nat):Int))),(.e 25 (.I ((j:Nat):Int))),(.e 28 (.agg #[.I y.kind,.I y.dst,.I y.a,.I y.b,.I y.n,.I y.ctx,.I y.var,.I y.piece,.I y.sk,.I y.sv,.I y.sa]))]) hR hM hn86 (by kernel_rfl) ?_
   clear hR hM; intro a83 w84 hR hb85 hM hkn86 hln86 hnen86
   replace hB:=hB.tr hb85
   replace hkn:=hkn.below hb85
   replace hR:SX.RSt 173 [] [(.e 2 (.P n5)),(.e 3 (.P n9)),(.e 5 (.slice Al ((R.values b).length) ka)),(.e 6 v),(.e 7 (.I ((b.params.toNat:Nat):Int))),(.e 9 (.P n86)),(.e 23 (.slice (some ⟨oby,ooy,none⟩) b.ops.length j1)),(.e 24 (.I ((b.ops.length:Nat):Int))),(.e 25 (.I ((j:Nat):Int))),(.e 28 (.agg #[.I y.kind,.I y.dst,.I y.a,.I y.b,.I y.n,.I y.ctx,.I y.var,.I y.piece,.I y.sk,.I y.sv,.I y.sa]))] a83:=hR.keep (ts:=[2,3,5,6,7,9,23,24,25,28]) (by kernel_rfl)
   refine SX.list_store 3 [(0,(.I y.kind)),(1,(.I y.dst)),(2,(.I y.a)),(3,(.I y.b)),(4,(.I y.n)),(5,(.I y.ctx)),(6,(.I y.var)),(7,(.I y.piece)),(8,(.I y.sk)),(9,(.I y.sv)),(10,(.I y.sa))] [(.I y.kind),(.I y.dst),(.I y.a),(.I y.b),(.I y.n),(.I y.ctx),(.I y.var),(.I y.piece),(.I y.sk),(.I y.sv),(.I y.sa)] [(⟨oby,ooy+j*11,none⟩,(.I y.kind)),(⟨oby,ooy+j*11+1,none⟩,(.I y.dst)),(⟨oby,ooy+j*11+2,none⟩,(.I y.a)),(⟨oby,ooy+j*11+3,none⟩,(.I y.b)),(⟨oby,ooy+j*11+4,none⟩,(.I y.n)),(⟨oby,ooy+j*11+5,none⟩,(.I y.ctx)),(⟨oby,ooy+j*11+6,none⟩,(.I y.var)),(⟨oby,ooy+j*11+7,none⟩,(.I y.piece)),(⟨oby,ooy+j*11+8,none⟩,(.I y.sk)),(⟨oby,ooy+j*11+9,none⟩,(.I y.sv)),(⟨oby,ooy+j*11+10,none⟩,(.I y.sa)),(⟨n9,0,none⟩,(.I b.params)),(⟨n9,1,none⟩,(.slice (some ⟨oby,ooy,none⟩) b.ops.length j1)),(⟨n9,2,none⟩,(.I b.term.kind)),(⟨n9,3,none⟩,(.I b.term.a)),(⟨n9,4,none⟩,(.I b.term.n)),(⟨n9,5,none⟩,(.slice B2 b.term.args.length j2)),(⟨n9,6,none⟩,(.I b.term.b0)),(⟨n9,7,none⟩,(.slice B3 b.term.args0.length j3)),(⟨n9,8,none⟩,(.I b.term.b1)),(⟨n9,9,none⟩,(.slice B4 b.term.args1.length j4)),(⟨n5,0,none⟩,(.I c.params)),(⟨n5,1,none⟩,(.slice A1 c.blocks.length k1)),(⟨n5,2,none⟩,(.slice A2 c.contexts.length k2)),(⟨n5,3,none⟩,(.slice A3 c.objects.length k3))] [(⟨n86,0,none⟩,(.I y.kind)),(⟨n86,1,none⟩,(.I y.dst)),(⟨n86,2,none⟩,(.I y.a)),(⟨n86,3,none⟩,(.I y.b)),(⟨n86,4,none⟩,(.I y.n)),(⟨n86,5,none⟩,(.I y.ctx)),(⟨n86,6,none⟩,(.I y.var)),(⟨n86,7,none⟩,(.I y.piece)),(⟨n86,8,none⟩,(.I y.sk)),(⟨n86,9,none⟩,(.I y.sv)),(⟨n86,10,none⟩,(.I y.sa)),(⟨oby,ooy+j*11,none⟩,(.I y.kind)),(⟨oby,ooy+j*11+1,none⟩,(.I y.dst)),(⟨oby,ooy+j*11+2,none⟩,(.I y.a)),(⟨oby,ooy+j*11+3,none⟩,(.I y.b)),(⟨oby,ooy+j*11+4,none⟩,(.I y.n)),(⟨oby,ooy+j*11+5,none⟩,(.I y.ctx)),(⟨oby,ooy+j*11+6,none⟩,(.I y.var)),(⟨oby,ooy+j*11+7,none⟩,(.I y.piece)),(⟨oby,ooy+j*11+8,none⟩,(.I y.sk)),(⟨oby,ooy+j*11+9,none⟩,(.I y.sv)),(⟨oby,ooy+j*11+10,none⟩,(.I y.sa)),(⟨n9,0,none⟩,(.I b.params)),(⟨n9,1,none⟩,(.slice (some ⟨oby,ooy,none⟩) b.ops.length j1)),(⟨n9,2,none⟩,(.I b.term.kind)),(⟨n9,3,none⟩,(.I b.term.a)),(⟨n9,4,none⟩,(.I b.term.n)),(⟨n9,5,none⟩,(.slice B2 b.term.args.length j2)),(⟨n9,6,none⟩,(.I b.term.b0)),(⟨n9,7,none⟩,(.slice B3 b.term.args0.length j3)),(⟨n9,8,none⟩,(.I b.term.b1)),(⟨n9,9,none⟩,(.slice B4 b.term.args1.length j4)),(⟨n5,0,none⟩,(.I c.params)),(⟨n5,1,none⟩,(.slice A1 c.blocks.length k1)),(⟨n5,2,none⟩,(.slice A2 c.contexts.length k2)),(⟨n5,3,none⟩,(.slice A3 c.objects.length k3))] hR (SX.cells_sub hM [0,1,2,3,4,5,6,7,8,9,10,11,12,13,14,15,16,17,18,19,20,21,22,23,24] (by kernel_rfl)) hnen86 hkn86 (by kernel_rfl) (by kernel_rfl) (by kernel_rfl) ?_
   clear hR hM hkn86; intro a87 w88 hR hb89 hM hkn86
   replace hB:=hB.trans (hb89.below (by omega))
   replace hkn:=hkn.but hb89 (fun g hg=>Nat.ne_of_lt (hgn86hkn g hg))
   refine SX.list_end 4 (by kernel_rfl) ?_
   refine hK79 _ _ ?_
   refine wp_seq_k fun K90 hK90=>?_
   refine wp_seq_k fun K91 hK91=>?_
   refine SX.region_q [(3,decide (y.kind<1)),(8,(decide (y.kind<1)||decide (21<y.kind))),(13,((decide (y.kind<1)||decide (21<y.kind))||(!(R.plain y)))),(17,(R.usesA y.kind)),(25,(((decide (y.kind<1)||decide (21<y.kind))||(!(R.plain y)))||((R.usesA y.kind)&&(!(R.has (R.upto b.params++dsts (b.ops.take (j))) y.a))))),(29,(R.usesB y.kind))] [.ld [],.ld [0],.ld [],.ld [],.ld [],.ld [0],.ld [],.pk,.ld [],.ld [0,1,2,3,4,5,6,7,8,9,10],.cl (.bool (R.plain y)),.ld [],.pk,.ld [],.ld [],.ld [0],.cl (.bool (R.usesA y.kind)),.ld [],.ld [],.ld [],.ld [2],.cl (.bool (R.has (R.upto b.params++dsts (b.ops.take (j))) y.a)),.ld [],.pk,.pk,.ld [],.ld [],.ld [0],.cl (.bool (R.usesB y.kind)),.ld [],.ld [],.ld [],.ld [3],.cl (.bool (R.has (R.upto b.params++dsts (b.ops.take (j))) y.b)),.ld [],.pk,.pk] [2,3,5,6,7,9,23,24,25,65] [(.e 2 (.P n5)),(.e 3 (.P n9)),(.e 5 (.slice Al ((R.values b).length) ka)),(.e 6 v),(.e 7 (.I ((b.params.toNat:Nat):Int))),(.e 9 (.P n86)),(.e 23 (.slice (some ⟨oby,ooy,none⟩) b.ops.length j1)),(.e 24 (.I ((b.ops.length:Nat):Int))),(.e 25 (.I ((j:Nat):Int))),(.e 65 (.bool ((((decide (y.kind<1)||decide (21<y.kind))||(!(R.plain y)))||((R.usesA y.kind)&&(!(R.has (R.upto b.params++dsts (b.ops.take (j))) y.a))))||((R.usesB y.kind)&&(!(R.has (R.upto b.params++dsts (b.ops.take (j))) y.b))))))] [] [] [([(8,false)],87,#[(.agg #[.I y.kind,.I y.dst,.I y.a,.I y.b,.I y.n,.I y.ctx,.I y.var,.I y.piece,.I y.sk,.I y.sv,.I y.sa])],(.bool (R.plain y))),([(13,false)],88,#[(.I y.kind)],(.bool (R.usesA y.kind))),([(17,true),(13,false)],71,#[v,(.I y.a)],(.bool (R.has (R.upto b.params++dsts (b.ops.take (j))) y.a))),([(25,false)],89,#[(.I y.kind)],(.bool (R.usesB y.kind))),([(29,true),(25,false)],71,#[v,(.I y.b)],(.bool (R.has (R.upto b.params++dsts (b.ops.take (j))) y.b)))] [] hR hM mix (by kernel_rfl) (by kernel_rfl) (by kernel_rfl) (by kernel_rfl) trivial trivial (fun w' hb' hM'=>trivial) (fun w' hb' hM'=>⟨fun hg=>plain_any y _,fun hg=>SX.pureC (usesA_any _ _),fun hg=>SX.pureC (has_any _ (R.upto b.params++dsts (b.ops.take (j))) _ _ ((hkn.below hb').at_)),fun hg=>SX.pureC (usesB_any _ _),fun hg=>SX.pureC (has_any _ (R.upto b.params++dsts (b.ops.take (j))) _ _ ((hkn.below hb').at_)),trivial⟩) ?_
   clear hR hM; intro a92 w93 hR hb94 hM
   replace hB:=hB.tr hb94
   replace hkn:=hkn.below hb94
   replace hkn86:=SX.blk_below hkn86 hb94
   refine hK91 _ _ ?_
   refine SX.cond_ ((((decide (y.kind<1)||decide (21<y.kind))||(!(R.plain y)))||((R.usesA y.kind)&&(!(R.has (R.upto b.params++dsts (b.ops.take (j))) y.a))))||((R.usesB y.kind)&&(!(R.has (R.upto b.params++dsts (b.ops.take (j))) y.b)))) hR (by kernel_rfl) (fun h95=>?_) (fun h95=>?_)
   ·skip
    refine wp_seq_k fun K96 hK96=>?_
    refine SX.region_q0 [.ld []] [2,3,4,5,6,7,23,24,25] [(.e 2 (.P n5)),(.e 3 (.P n9)),(.e 4 (.bool false)),(.e 5 (.slice Al ((R.values b).length) ka)),(.e 6 v),(.e 7 (.I ((b.params.toNat:Nat):Int))),(.e 23 (.slice (some ⟨oby,ooy,none⟩) b.ops.length j1)),(.e 24 (.I ((b.ops.length:Nat):Int))),(.e 25 (.I ((j:Nat):Int)))] hR hM mix (by kernel_rfl) (by kernel_rfl) (by kernel_rfl) (by kernel_rfl) ?_
    clear hR hM; intro a97 w98 hR hb99 hM
    replace hB:=hB.tr hb99
    replace hkn:=hkn.below hb99
    replace hkn86:=SX.blk_below hkn86 hb99
    refine hK96 _ _ ?_
    refine wp_ret ?_
    try simp only [Exit.then,Exit.inBlock,Nat.reduceEqDiff,↓reduceIte]
    refine SX.ret_ 4 (.bool false) Try.results58 hR (by kernel_rfl) ?_
    clear hR hM mix hK1 hzn5 hb4 hkn5 hln5 hn5 hzn9 qn5n9 hb8 hkn9 hln9 hn9 hb12 hK13 hb16 hb23 hb26 hK27 hb30 hK31 hK32 hb35 hm38 hK39 hK40 hb43 hK64 hK65 hb68 hm71 hK72 hb75 hK76 hK78 hK79 hb82 hzn86 hgn86hkn hb85 hkn86 hln86 hn86 hnen86 hb89 hK90 hK91 hb94 hK96 hb99
    replace hB:=hBr.tr hB
    refine ⟨ret_bool ?_,hB⟩
    rw [ops_all]
    exact allAt_no hy (by unfold stepB R.head; rw [h95]; rfl)
   ·skip
    refine wp_skip ?_
    refine hK90 _ _ ?_
    refine SX.seq_cut (fun a' w'=>∃ u:Value,SX.RSt 173 [] [(.e 2 (.P n5)),(.e 3 (.P n9)),(.e 5 (.slice Al ((R.values b).length) ka)),(.e 6 u),(.e 7 (.I ((b.params.toNat:Nat):Int))),(.e 9 (.P n86)),(.e 23 (.slice (some ⟨oby,ooy,none⟩) b.ops.length j1)),(.e 24 (.I ((b.ops.length:Nat):Int))),(.e 25 (.I ((j:Nat):Int)))] a'∧Below w25.heap.size w25 w'∧SX.Cells w' [(⟨n86,0,none⟩,(.I y.kind)),(⟨n86,1,none⟩,(.I y.dst)),(⟨n86,2,none⟩,(.I y.a)),(⟨n86,3,none⟩,(.I y.b)),(⟨n86,4,none⟩,(.I y.n)),(⟨n86,5,none⟩,(.I y.ctx)),(⟨n86,6,none⟩,(.I y.var)),(⟨n86,7,none⟩,(.I y.piece)),(⟨n86,8,none⟩,(.I y.sk)),(⟨n86,9,none⟩,(.I y.sv)),(⟨n86,10,none⟩,(.I y.sa)),(⟨oby,ooy+j*11,none⟩,(.I y.kind)),(⟨oby,ooy+j*11+1,none⟩,(.I y.dst)),(⟨oby,ooy+j*11+2,none⟩,(.I y.a)),(⟨oby,ooy+j*11+3,none⟩,(.I y.b)),(⟨oby,ooy+j*11+4,none⟩,(.I y.n)),(⟨oby,ooy+j*11+5,none⟩,(.I y.ctx)),(⟨oby,ooy+j*11+6,none⟩,(.I y.var)),(⟨oby,ooy+j*11+7,none⟩,(.I y.piece)),(⟨oby,ooy+j*11+8,none⟩,(.I y.sk)),(⟨oby,ooy+j*11+9,none⟩,(.I y.sv)),(⟨oby,ooy+j*11+10,none⟩,(.I y.sa)),(⟨n9,0,none⟩,(.I b.params)),(⟨n9,1,none⟩,(.slice (some ⟨oby,ooy,none⟩) b.ops.length j1)),(⟨n9,2,none⟩,(.I b.term.kind)),(⟨n9,3,none⟩,(.I b.term.a)),(⟨n9,4,none⟩,(.I b.term.n)),(⟨n9,5,none⟩,(.slice B2 b.term.args.length j2)),(⟨n9,6,none⟩,(.I b.term.b0)),(⟨n9,7,none⟩,(.slice B3 b.term.args0.length j3)),(⟨n9,8,none⟩,(.I b.term.b1)),(⟨n9,9,none⟩,(.slice B4 b.term.args1.length j4)),(⟨n5,0,none⟩,(.I c.params)),(⟨n5,1,none⟩,(.slice A1 c.blocks.length k1)),(⟨n5,2,none⟩,(.slice A2 c.contexts.length k2)),(⟨n5,3,none⟩,(.slice A3 c.objects.length k3))]∧(IntsOwn w' Bk u (R.upto b.params++dsts (b.ops.take (j+1)))∧(!R.defines y.kind||!(decide (y.dst<b.params)||decide (9999<y.dst)||R.has (R.upto b.params++dsts (b.ops.take (j))) y.dst))=true)) ?_ ?_
    ·skip
     refine wp_seq_k fun K100 hK100=>?_
     refine SX.region_q [] [.ld [],.ld [0],.cl (.bool (R.defines y.kind))] [2,3,5,6,7,9,23,24,25,68] [(.e 2 (.P n5)),(.e 3 (.P n9)),(.e 5 (.slice Al ((R.values b).length) ka)),(.e 6 v),(.e 7 (.I ((b.params.toNat:Nat):Int))),(.e 9 (.P n86)),(.e 23 (.slice (some ⟨oby,ooy,none⟩) b.ops.length j1)),(.e 24 (.I ((b.ops.length:Nat):Int))),(.e 25 (.I ((j:Nat):Int))),(.e 68 (.bool (R.defines y.kind)))] [] [] [([],90,#[(.I y.kind)],(.bool (R.defines y.kind)))] [] hR hM mix (by kernel_rfl) (by kernel_rfl) (by kernel_rfl) (by kernel_rfl) trivial trivial (fun w' hb' hM'=>trivial) (fun w' hb' hM'=>⟨fun hg=>SX.pureC (defines_any _ _),trivial⟩) ?_
     clear hR hM; intro a101 w102 hR hb103 hM
     replace hB:=hB.tr hb103
     replace hkn:=hkn.below hb103
     replace hkn86:=SX.blk_below hkn86 hb103
     refine hK100 _ _ ?_
     refine SX.cond_ (R.defines y.kind) hR (by kernel_rfl) (fun h104=>?_) (fun h104=>?_)
     ·skip
      refine wp_seq_k fun K105 hK105=>?_
      refine wp_seq_k fun K106 hK106=>?_
      refine SX.region_q [(5,decide (y.dst<b.params)),(10,(decide (y.dst<b.params)||decide (9999<y.dst)))] [.ld [],.ld [1],.ld [],.ld [22],.ld [],.ld [],.ld [],.ld [1],.ld [],.pk,.ld [],.ld [],.ld [],.ld [1],.cl (.bool (R.has (R.upto b.params++dsts (b.ops.take (j))) y.dst)),.pk] [2,3,5,6,7,9,23,24,25,84] [(.e 2 (.P n5)),(.e 3 (.P n9)),(.e 5 (.slice Al ((R.values b).length) ka)),(.e 6 v),(.e 7 (.I ((b.params.toNat:Nat):Int))),(.e 9 (.P n86)),(.e 23 (.slice (some ⟨oby,ooy,none⟩) b.ops.length j1)),(.e 24 (.I ((b.ops.length:Nat):Int))),(.e 25 (.I ((j:Nat):Int))),(.e 84 (.bool ((decide (y.dst<b.params)||decide (9999<y.dst))||(R.has (R.upto b.params++dsts (b.ops.take (j))) y.dst))))] [] [] [([(10,false)],71,#[v,(.I y.dst)],(.bool (R.has (R.upto b.params++dsts (b.ops.take (j))) y.dst)))] [] hR hM mix (by kernel_rfl) (by kernel_rfl) (by kernel_rfl) (by kernel_rfl) trivial trivial (fun w' hb' hM'=>trivial) (fun w' hb' hM'=>⟨fun hg=>SX.pureC (has_any _ (R.upto b.params++dsts (b.ops.take (j))) _ _ ((hkn.below hb').at_)),trivial⟩) ?_
      clear hR hM; intro a107 w108 hR hb109 hM
      replace hB:=hB.tr hb109
      replace hkn:=hkn.below hb109
      replace hkn86:=SX.blk_below hkn86 hb109
      refine hK106 _ _ ?_
      refine SX.cond_ ((decide (y.dst<b.params)||decide (9999<y.dst))||(R.has (R.upto b.params++dsts (b.ops.take (j))) y.dst)) hR (by kernel_rfl) (fun h110=>?_) (fun h110=>?_)
      ·skip
       refine wp_seq_k fun K111 hK111=>?_
       refine SX.region_q0 [.ld []] [2,3,4,5,6,7,9,23,24,25] [(.e 2 (.P n5)),(.e 3 (.P n9)),(.e 4 (.bool false)),(.e 5 (.slice Al ((R.values b).length) ka)),(.e 6 v),(.e 7 (.I ((b.params.toNat:Nat):Int))),(.e 9 (.P n86)),(.e 23 (.slice (some ⟨oby,ooy,none⟩) b.ops.length j1)),(.e 24 (.I ((b.ops.length:Nat):Int))),(.e 25 (.I ((j:Nat):Int)))] hR hM mix (by kernel_rfl) (by kernel_rfl) (by kernel_rfl) (by kernel_rfl) ?_
       clear hR hM; intro a112 w113 hR hb114 hM
       replace hB:=hB.tr hb114
       replace hkn:=hkn.below hb114
       replace hkn86:=SX.blk_below hkn86 hb114
       refine hK111 _ _ ?_
       refine wp_ret ?_
       try simp only [Exit.then,Exit.inBlock,Nat.reduceEqDiff,↓reduceIte]
       refine SX.ret_ 4 (.bool false) Try.results58 hR (by kernel_rfl) ?_
       clear hR hM mix hK1 hzn5 hb4 hkn5 hln5 hn5 hzn9 qn5n9 hb8 hkn9 hln9 hn9 hb12 hK13 hb16 hb23 hb26 hK27 hb30 hK31 hK32 hb35 hm38 hK39 hK40 hb43 hK64 hK65 hb68 hm71 hK72 hb75 hK76 hK78 hK79 hb82 hzn86 hgn86hkn hb85 hkn86 hln86 hn86 hnen86 hb89 hK90 hK91 hb94 hK100 hb103 hK105 hK106 hb109 hK111 hb114
       replace hB:=hBr.tr hB
       refine ⟨ret_bool ?_,hB⟩
       rw [ops_all]
       exact allAt_no hy (by unfold stepB R.head; rw [h95,h104,h110]; rfl)
      ·skip
       refine wp_skip ?_
       refine hK105 _ _ ?_
       refine SX.region_l ?_
       refine SX.list_q0 (κ:=[]) 0 3 [.ld [],.ld [],.ld [1]] [2,3,5,6,7,9,23,24,25,85,87] [(.e 2 (.P n5)),(.e 3 (.P n9)),(.e 5 (.slice Al ((R.values b).length) ka)),(.e 6 v),(.e 7 (.I ((b.params.toNat:Nat):Int))),(.e 9 (.P n86)),(.e 23 (.slice (some ⟨oby,ooy,none⟩) b.ops.length j1)),(.e 24 (.I ((b.ops.length:Nat):Int))),(.e 25 (.I ((j:Nat):Int))),(.e 85 v),(.e 87 (.I y.dst))] hR hM (by kernel_rfl) (by kernel_rfl) ?_
       clear hR hM; intro a115 w116 hR hb117 hM
       replace hB:=hB.tr hb117
       replace hkn:=hkn.below hb117
       replace hkn86:=SX.blk_below hkn86 hb117
       obtain ⟨n121,hn121⟩:∃ n,w116.heap.size=n:=⟨_,rfl⟩
       have hzn121:w25.heap.size≤n121:=by have:=hB.size; omega
       have hgn121hkn:=hkn.lt hn121
       have qn86n121:n86<n121:=by have:=(Array.getElem?_eq_some_iff.1 hkn86).1; omega
       refine SX.list_box 3 n121 [(.I y.dst)] 3 ((.e 88 (.slice (some ⟨n121,0,none⟩) 1 1))::[(.e 2 (.P n5)),(.e 3 (.P n9)),(.e 5 (.slice Al ((R.values b).length) ka)),(.e 6 v),(.e 7 (.I ((b.params.toNat:Nat):Int))),(.e 9 (.P n86)),(.e 23 (.slice (some ⟨oby,ooy,none⟩) b.ops.length j1)),(.e 24 (.I ((b.ops.length:Nat):Int))),(.e 25 (.I ((j:Nat):Int))),(.e 85 v),(.e 87 (.I y.dst))]) [(⟨n121,0,none⟩,(.I y.dst)),(⟨n86,0,none⟩,(.I y.kind)),(⟨n86,1,none⟩,(.I y.dst)),(⟨n86,2,none⟩,(.I y.a)),(⟨n86,3,none⟩,(.I y.b)),(⟨n86,4,none⟩,(.I y.n)),(⟨n86,5,none⟩,(.I y.ctx)),(⟨n86,6,none⟩,(.I y.var)),(⟨n86,7,none⟩,(.I y.piece)),(⟨n86,8,none⟩,(.I y.sk)),(⟨n86,9,none⟩,(.I y.sv)),(⟨n86,10,none⟩,(.I y.sa)),(⟨oby,ooy+j*11,none⟩,(.I y.kind)),(⟨oby,ooy+j*11+1,none⟩,(.I y.dst)),(⟨oby,ooy+j*11+2,none⟩,(.I y.a)),(⟨oby,ooy+j*11+3,none⟩,(.I y.b)),(⟨oby,ooy+j*11+4,none⟩,(.I y.n)),(⟨oby,ooy+j*11+5,none⟩,(.I y.ctx)),(⟨oby,ooy+j*11+6,none⟩,(.I y.var)),(⟨oby,ooy+j*11+7,none⟩,(.I y.piece)),(⟨oby,ooy+j*11+8,none⟩,(.I y.sk)),(⟨oby,ooy+j*11+9,none⟩,(.I y.sv)),(⟨oby,ooy+j*11+10,none⟩,(.I y.sa)),(⟨n9,0,none⟩,(.I b.params)),(⟨n9,1,none⟩,(.slice (some ⟨oby,ooy,none⟩) b.ops.length j1)),(⟨n9,2,none⟩,(.I b.term.kind)),(⟨n9,3,none⟩,(.I b.term.a)),(⟨n9,4,none⟩,(.I b.term.n)),(⟨n9,5,none⟩,(.slice B2 b.term.args.length j2)),(⟨n9,6,none⟩,(.I b.term.b0)),(⟨n9,7,none⟩,(.slice B3 b.term.args0.length j3)),(⟨n9,8,none⟩,(.I b.term.b1)),(⟨n9,9,none⟩,(.slice B4 b.term.args1.length j4)),(⟨n5,0,none⟩,(.I c.params)),(⟨n5,1,none⟩,(.slice A1 c.blocks.length k1)),(⟨n5,2,none⟩,(.slice A2 c.contexts.length k2)),(⟨n5,3,none⟩,(.slice A3 c.objects.length k3))] hR hM hn121 (by kernel_rfl) (by kernel_rfl) ?_
       clear hR hM; intro a118 w119 hR hb120 hM hkn121 hln121
       replace hB:=hB.tr hb120
       replace hkn:=hkn.below hb120
       replace hkn86:=SX.blk_below hkn86 hb120
       replace hR:SX.RSt 173 [] [(.e 2 (.P n5)),(.e 3 (.P n9)),(.e 5 (.slice Al ((R.values b).length) ka)),(.e 6 v),(.e 7 (.I ((b.params.toNat:Nat):Int))),(.e 9 (.P n86)),(.e 23 (.slice (some ⟨oby,ooy,none⟩) b.ops.length j1)),(.e 24 (.I ((b.ops.length:Nat):Int))),(.e 25 (.I ((j:Nat):Int))),(.e 85 v),(.e 88 (.slice (some ⟨n121,0,none⟩) 1 1))] a118:=hR.keep (ts:=[2,3,5,6,7,9,23,24,25,85,88]) (by kernel_rfl)
       obtain ⟨v122,w123,hrun,hown2,hgr125⟩:=appI_run hkn n121 y.dst (hM (⟨n121,0,none⟩,(.I y.dst)) (SX.mget_mem (i:=0) (by kernel_rfl))) (hiy.2.1) (by rw [List.length_append,upto_len]; have:=dsts_le b.ops j; omega)
       refine SX.list_run 4 (some 89) (appS 35 35 v (.slice (some ⟨n121,0,none⟩) 1 1)) v122 hR (by kernel_rfl) (by kernel_rfl) hrun ?_
       clear hR hrun; intro a124 hR
       have hgee126:=hkn.ge
       have hqn121e126:∀ g,v.ownBlock=some g→n121≠g:=fun g hg=>by have h1:=hgee126 g hg; have h2:=hgn121hkn g hg; omega
       have hqn86e126:∀ g,v.ownBlock=some g→n86≠g:=fun g hg=>by have h1:=hgee126 g hg; have h2:=hgn86hkn g hg; omega
       have hqobye126:∀ g,v.ownBlock=some g→oby≠g:=fun g hg=>by have h1:=hgee126 g hg; omega
       have hqn9e126:∀ g,v.ownBlock=some g→n9≠g:=fun g hg=>by have h1:=hgee126 g hg; omega
       have hqn5e126:∀ g,v.ownBlock=some g→n5≠g:=fun g hg=>by have h1:=hgee126 g hg; omega
       replace hB:=hB.grown hgr125 hB.size (fun g hg=>by have h1:=hgee126 g hg; omega)
       replace hM:=cells_grown hM hgr125 (gne_cons hqn121e126 (gne_cons hqn86e126 (gne_cons hqn86e126 (gne_cons hqn86e126 (gne_cons hqn86e126 (gne_cons hqn86e126 (gne_cons hqn86e126 (gne_cons hqn86e126 (gne_cons hqn86e126 (gne_cons hqn86e126 (gne_cons hqn86e126 (gne_cons hqn86e126 (gne_cons hqobye126 (gne_cons hqobye126 (gne_cons hqobye126 (gne_cons hqobye126 (gne_cons hqobye126 (gne_cons hqobye126 (gne_cons hqobye126 (gne_cons hqobye126 (gne_cons hqobye126 (gne_cons hqobye126 (gne_cons hqobye126 (gne_cons hqn9e126 (gne_cons hqn9e126 (gne_cons hqn9e126 (gne_cons hqn9e126 (gne_cons hqn9e126 (gne_cons hqn9e126 (gne_cons hqn9e126 (gne_cons hqn9e126 (gne_cons hqn9e126 (gne_cons hqn9e126 (gne_cons hqn5e126 (gne_cons hqn5e126 (gne_cons hqn5e126 (gne_cons hqn5e126 gne_nil)))))))))))))))))))))))))))))))))))))
       replace hkn86:=(hgr125.block _ (Array.getElem?_eq_some_iff.1 hkn86).1 (fun e=>(show ∀ g,v.ownBlock=some g→n86≠g from fun g hg=>by have h1:=hgee126 g hg; have h2:=hgn86hkn g hg; omega) _ e.symm rfl)).trans hkn86
       replace hkn121:=(hgr125.block _ (Array.getElem?_eq_some_iff.1 hkn121).1 (fun e=>(show ∀ g,v.ownBlock=some g→n121≠g from fun g hg=>by have h1:=hgee126 g hg; have h2:=hgn121hkn g hg; omega) _ e.symm rfl)).trans hkn121
       clear hkn; have hkn:=hown2; clear hown2
       replace hR:SX.RSt 173 [] [(.e 2 (.P n5)),(.e 3 (.P n9)),(.e 5 (.slice Al ((R.values b).length) ka)),(.e 6 v),(.e 7 (.I ((b.params.toNat:Nat):Int))),(.e 9 (.P n86)),(.e 23 (.slice (some ⟨oby,ooy,none⟩) b.ops.length j1)),(.e 24 (.I ((b.ops.length:Nat):Int))),(.e 25 (.I ((j:Nat):Int))),(.e 89 v122)] a124:=hR.keep (ts:=[2,3,5,6,7,9,23,24,25,89]) (by kernel_rfl)
       refine SX.list_q0 (κ:=[]) 5 1 [.ld []] [2,3,5,6,7,9,23,24,25] [(.e 2 (.P n5)),(.e 3 (.P n9)),(.e 5 (.slice Al ((R.values b).length) ka)),(.e 6 v122),(.e 7 (.I ((b.params.toNat:Nat):Int))),(.e 9 (.P n86)),(.e 23 (.slice (some ⟨oby,ooy,none⟩) b.ops.length j1)),(.e 24 (.I ((b.ops.length:Nat):Int))),(.e 25 (.I ((j:Nat):Int)))] hR hM (by kernel_rfl) (by kernel_rfl) ?_
       clear hR hM; intro a127 w128 hR hb129 hM
       replace hB:=hB.tr hb129
       replace hkn:=hkn.below hb129
       replace hkn86:=SX.blk_below hkn86 hb129
       replace hkn121:=SX.blk_below hkn121 hb129
       refine SX.list_end 6 (by kernel_rfl) ?_
       exact ⟨v122,hR.keep (ts:=[2,3,5,6,7,9,23,24,25]) (by kernel_rfl),hB,SX.cells_sub hM [1,2,3,4,5,6,7,8,9,10,11,12,13,14,15,16,17,18,19,20,21,22,23,24,25,26,27,28,29,30,31,32,33,34,35,36] (by kernel_rfl),⟨by rw [dsts_yes hy h104,← List.append_assoc]; exact hkn,by rw [h104,h110]; rfl⟩⟩
     ·skip
      refine wp_skip ?_
      exact ⟨v,hR.keep (ts:=[2,3,5,6,7,9,23,24,25]) (by kernel_rfl),hB,SX.cells_sub hM [0,1,2,3,4,5,6,7,8,9,10,11,12,13,14,15,16,17,18,19,20,21,22,23,24,25,26,27,28,29,30,31,32,33,34,35] (by kernel_rfl),⟨by rw [dsts_no hy h104]; exact hkn,by rw [h104]; rfl⟩⟩
    ·skip
     clear hR hM hB
     rintro a130 w131 ⟨u,hR,hB,hM,hc12⟩
     obtain ⟨hkn,hdf⟩:=hc12
     refine wp_seq_k fun K132 hK132=>?_
     refine SX.region_q0 [.ld [],.ld [0]] [2,3,5,6,7,9,23,24,25,91] [(.e 2 (.P n5)),(.e 3 (.P n9)),(.e 5 (.slice Al ((R.values b).length) ka)),(.e 6 u),(.e 7 (.I ((b.params.toNat:Nat):Int))),(.e 9 (.P n86)),(.e 23 (.slice (some ⟨oby,ooy,none⟩) b.ops.length j1)),(.e 24 (.I ((b.ops.length:Nat):Int))),(.e 25 (.I ((j:Nat):Int))),(.e 91 (.I y.kind))] hR hM mix (by kernel_rfl) (by kernel_rfl) (by kernel_rfl) (by kernel_rfl) ?_
     clear hR hM; intro a133 w134 hR hb135 hM
     replace hB:=hB.tr hb135
     replace hkn:=hkn.below hb135
     refine hK132 _ _ ?_
     refine wp_block ?_
     refine SX.seq_cut (fun a' w'=>∃ q:Bool,SX.RSt 173 [] [(.e 2 (.P n5)),(.e 3 (.P n9)),(.e 5 (.slice Al ((R.values b).length) ka)),(.e 6 u),(.e 7 (.I ((b.params.toNat:Nat):Int))),(.e 9 (.P n86)),(.e 23 (.slice (some ⟨oby,ooy,none⟩) b.ops.length j1)),(.e 24 (.I ((b.ops.length:Nat):Int))),(.e 25 (.I ((j:Nat):Int))),(.e 91 (.I y.kind)),(.e 92 (.bool q))] a'∧Below w25.heap.size w25 w'∧SX.Cells w' [(⟨n86,0,none⟩,(.I y.kind)),(⟨n86,1,none⟩,(.I y.dst)),(⟨n86,2,none⟩,(.I y.a)),(⟨n86,3,none⟩,(.I y.b)),(⟨n86,4,none⟩,(.I y.n)),(⟨n86,5,none⟩,(.I y.ctx)),(⟨n86,6,none⟩,(.I y.var)),(⟨n86,7,none⟩,(.I y.piece)),(⟨n86,8,none⟩,(.I y.sk)),(⟨n86,9,none⟩,(.I y.sv)),(⟨n86,10,none⟩,(.I y.sa)),(⟨oby,ooy+j*11,none⟩,(.I y.kind)),(⟨oby,ooy+j*11+1,none⟩,(.I y.dst)),(⟨oby,ooy+j*11+2,none⟩,(.I y.a)),(⟨oby,ooy+j*11+3,none⟩,(.I y.b)),(⟨oby,ooy+j*11+4,none⟩,(.I y.n)),(⟨oby,ooy+j*11+5,none⟩,(.I y.ctx)),(⟨oby,ooy+j*11+6,none⟩,(.I y.var)),(⟨oby,ooy+j*11+7,none⟩,(.I y.piece)),(⟨oby,ooy+j*11+8,none⟩,(.I y.sk)),(⟨oby,ooy+j*11+9,none⟩,(.I y.sv)),(⟨oby,ooy+j*11+10,none⟩,(.I y.sa)),(⟨n9,0,none⟩,(.I b.params)),(⟨n9,1,none⟩,(.slice (some ⟨oby,ooy,none⟩) b.ops.length j1)),(⟨n9,2,none⟩,(.I b.term.kind)),(⟨n9,3,none⟩,(.I b.term.a)),(⟨n9,4,none⟩,(.I b.term.n)),(⟨n9,5,none⟩,(.slice B2 b.term.args.length j2)),(⟨n9,6,none⟩,(.I b.term.b0)),(⟨n9,7,none⟩,(.slice B3 b.term.args0.length j3)),(⟨n9,8,none⟩,(.I b.term.b1)),(⟨n9,9,none⟩,(.slice B4 b.term.args1.length j4)),(⟨n5,0,none⟩,(.I c.params)),(⟨n5,1,none⟩,(.slice A1 c.blocks.length k1)),(⟨n5,2,none⟩,(.slice A2 c.contexts.length k2)),(⟨n5,3,none⟩,(.slice A3 c.objects.length k3))]∧(q=(y.kind==15||y.kind==16||y.kind==17)∧IntsOwn w' Bk u (R.upto b.params++dsts (b.ops.take (j+1))))) ?_ ?_
     ·skip
      refine wp_seq_k fun K136 hK136=>?_
      refine SX.region_q0 [.ld [],.ld []] [2,3,5,6,7,9,23,24,25,91,92] [(.e 2 (.P n5)),(.e 3 (.P n9)),(.e 5 (.slice Al ((R.values b).length) ka)),(.e 6 u),(.e 7 (.I ((b.params.toNat:Nat):Int))),(.e 9 (.P n86)),(.e 23 (.slice (some ⟨oby,ooy,none⟩) b.ops.length j1)),(.e 24 (.I ((b.ops.length:Nat):Int))),(.e 25 (.I ((j:Nat):Int))),(.e 91 (.I y.kind)),(.e 92 (.bool (y.kind==15)))] hR hM mix (by kernel_rfl) (by kernel_rfl) (by kernel_rfl) (by kernel_rfl) ?_
      clear hR hM; intro a137 w138 hR hb139 hM
      replace hB:=hB.tr hb139
      replace hkn:=hkn.below hb139
      refine hK136 _ _ ?_
      refine SX.cond_ (y.kind==15) hR (by kernel_rfl) (fun h140=>?_) (fun h140=>?_)
      ·skip
       refine wp_skip ?_
       exact ⟨(y.kind==15),hR.keep (ts:=[2,3,5,6,7,9,23,24,25,91,92]) (by kernel_rfl),hB,SX.cells_sub hM [0,1,2,3,4,5,6,7,8,9,10,11,12,13,14,15,16,17,18,19,20,21,22,23,24,25,26,27,28,29,30,31,32,33,34,35] (by kernel_rfl),⟨by simp [h140],hkn⟩⟩
      ·skip
       refine wp_seq_k fun K141 hK141=>?_
       refine SX.region_q0 [.ld [],.ld []] [2,3,5,6,7,9,23,24,25,91,92] [(.e 2 (.P n5)),(.e 3 (.P n9)),(.e 5 (.slice Al ((R.values b).length) ka)),(.e 6 u),(.e 7 (.I ((b.params.toNat:Nat):Int))),(.e 9 (.P n86)),(.e 23 (.slice (some ⟨oby,ooy,none⟩) b.ops.length j1)),(.e 24 (.I ((b.ops.length:Nat):Int))),(.e 25 (.I ((j:Nat):Int))),(.e 91 (.I y.kind)),(.e 92 (.bool (y.kind==16)))] hR hM mix (by kernel_rfl) (by kernel_rfl) (by kernel_rfl) (by kernel_rfl) ?_
       clear hR hM; intro a142 w143 hR hb144 hM
       replace hB:=hB.tr hb144
       replace hkn:=hkn.below hb144
       refine hK141 _ _ ?_
       refine SX.cond_ (y.kind==16) hR (by kernel_rfl) (fun h145=>?_) (fun h145=>?_)
       ·skip
        refine wp_skip ?_
        exact ⟨(y.kind==16),hR.keep (ts:=[2,3,5,6,7,9,23,24,25,91,92]) (by kernel_rfl),hB,SX.cells_sub hM [0,1,2,3,4,5,6,7,8,9,10,11,12,13,14,15,16,17,18,19,20,21,22,23,24,25,26,27,28,29,30,31,32,33,34,35] (by kernel_rfl),⟨by simp [h140,h145],hkn⟩⟩
       ·skip
        refine SX.region_q0 [.ld [],.ld []] [2,3,5,6,7,9,23,24,25,91,92] [(.e 2 (.P n5)),(.e 3 (.P n9)),(.e 5 (.slice Al ((R.values b).length) ka)),(.e 6 u),(.e 7 (.I ((b.params.toNat:Nat):Int))),(.e 9 (.P n86)),(.e 23 (.slice (some ⟨oby,ooy,none⟩) b.ops.length j1)),(.e 24 (.I ((b.ops.length:Nat):Int))),(.e 25 (.I ((j:Nat):Int))),(.e 91 (.I y.kind)),(.e 92 (.bool (y.kind==17)))] hR hM mix (by kernel_rfl) (by kernel_rfl) (by kernel_rfl) (by kernel_rfl) ?_
        clear hR hM; intro a146 w147 hR hb148 hM
        replace hB:=hB.tr hb148
        replace hkn:=hkn.below hb148
        exact ⟨(y.kind==17),hR.keep (ts:=[2,3,5,6,7,9,23,24,25,91,92]) (by kernel_rfl),hB,SX.cells_sub hM [0,1,2,3,4,5,6,7,8,9,10,11,12,13,14,15,16,17,18,19,20,21,22,23,24,25,26,27,28,29,30,31,32,33,34,35] (by kernel_rfl),⟨by simp [h140,h145],hkn⟩⟩
     ·skip
      clear hR hM hB
      rintro a149 w150 ⟨q,hR,hB,hM,hc17⟩
      obtain ⟨hq,hkn⟩:=hc17
      refine SX.cond_ q hR (by kernel_rfl) (fun h151=>?_) (fun h151=>?_)
      ·skip
       refine wp_seq_k fun K152 hK152=>?_
       refine SX.region_q [(3,decide (y.n<0))] [.ld [],.ld [4],.ld [],.ld [],.ld [],.ld [4],.ld [],.ld [35],.ld [],.ld [],.pk] [2,3,5,6,7,23,24,25,106] [(.e 2 (.P n5)),(.e 3 (.P n9)),(.e 5 (.slice Al ((R.values b).length) ka)),(.e 6 u),(.e 7 (.I ((b.params.toNat:Nat):Int))),(.e 23 (.slice (some ⟨oby,ooy,none⟩) b.ops.length j1)),(.e 24 (.I ((b.ops.length:Nat):Int))),(.e 25 (.I ((j:Nat):Int))),(.e 106 (.bool (decide (y.n<0)||decide (((c.objects.length:Nat):Int)≤y.n))))] [] [] [] [] hR hM mix (by kernel_rfl) (by kernel_rfl) (by kernel_rfl) (by kernel_rfl) trivial trivial (fun w' hb' hM'=>trivial) (fun w' hb' hM'=>trivial) ?_
       clear hR hM; intro a153 w154 hR hb155 hM
       replace hB:=hB.tr hb155
       replace hkn:=hkn.below hb155
       refine hK152 _ _ ?_
       refine SX.cond_ (decide (y.n<0)||decide (((c.objects.length:Nat):Int)≤y.n)) hR (by kernel_rfl) (fun h156=>?_) (fun h156=>?_)
       ·skip
        refine wp_seq_k fun K157 hK157=>?_
        refine SX.region_q0 [.ld []] [2,3,4,5,6,7,23,24,25] [(.e 2 (.P n5)),(.e 3 (.P n9)),(.e 4 (.bool false)),(.e 5 (.slice Al ((R.values b).length) ka)),(.e 6 u),(.e 7 (.I ((b.params.toNat:Nat):Int))),(.e 23 (.slice (some ⟨oby,ooy,none⟩) b.ops.length j1)),(.e 24 (.I ((b.ops.length:Nat):Int))),(.e 25 (.I ((j:Nat):Int)))] hR hM mix (by kernel_rfl) (by kernel_rfl) (by kernel_rfl) (by kernel_rfl) ?_
        clear hR hM; intro a158 w159 hR hb160 hM
        replace hB:=hB.tr hb160
        replace hkn:=hkn.below hb160
        refine hK157 _ _ ?_
        refine wp_ret ?_
        try simp only [Exit.then,Exit.inBlock,Nat.reduceEqDiff,↓reduceIte]
        refine SX.ret_ 4 (.bool false) Try.results58 hR (by kernel_rfl) ?_
        clear hR hM mix hK1 hzn5 hb4 hkn5 hln5 hn5 hzn9 qn5n9 hb8 hkn9 hln9 hn9 hb12 hK13 hb16 hb23 hb26 hK27 hb30 hK31 hK32 hb35 hm38 hK39 hK40 hb43 hK64 hK65 hb68 hm71 hK72 hb75 hK76 hK78 hK79 hb82 hzn86 hgn86hkn hb85 hkn86 hln86 hn86 hnen86 hb89 hK90 hK91 hb94 hK132 hb135 hK152 hb155 hK157 hb160
        replace hB:=hBr.tr hB
        refine ⟨ret_bool ?_,hB⟩
        rw [ops_all]
        exact allAt_no hy (by unfold stepB R.head; rw [h95,hdf,tail_obj (hq.symm.trans h151),h156]; rfl)
       ·skip
        refine wp_skip ?_
        refine hK78 _ _ ?_
        refine SX.region_q [] [.nm (.I ((j+1:Nat):Int)),.ld []] [2,3,5,6,7,23,24,25] [(.e 2 (.P n5)),(.e 3 (.P n9)),(.e 5 (.slice Al ((R.values b).length) ka)),(.e 6 u),(.e 7 (.I ((b.params.toNat:Nat):Int))),(.e 23 (.slice (some ⟨oby,ooy,none⟩) b.ops.length j1)),(.e 24 (.I ((b.ops.length:Nat):Int))),(.e 25 (.I ((j+1:Nat):Int)))] [] [] [] [([],(.I (IntKind.i64.wrap (((j:Nat):Int)+1))),(.I ((j+1:Nat):Int)))] hR hM mix (by kernel_rfl) (by kernel_rfl) (by kernel_rfl) (by kernel_rfl) trivial ⟨fun hg=>SX.wrap_ok (by omega),trivial⟩ (fun w' hb' hM'=>trivial) (fun w' hb' hM'=>trivial) ?_
        clear hR hM; intro a161 w162 hR hb163 hM
        replace hB:=hB.tr hb163
        replace hkn:=hkn.below hb163
        exact ⟨b.ops.length-(j+1),by omega,j+1,u,rfl,by omega,hR.keep (ts:=[2,3,5,6,7,23,24,25]) (by kernel_rfl),hB,SX.cells_sub hM [22,23,24,25,26,27,28,29,30,31,32,33,34,35] (by kernel_rfl),⟨hkn,hup.step hy (by unfold stepB R.head; rw [h95,hdf]; rw [tail_obj (hq.symm.trans h151),h156]; rfl)⟩⟩
      ·skip
       refine SX.seq_cut (fun a' w'=>∃ q2:Bool,SX.RSt 173 [] [(.e 2 (.P n5)),(.e 3 (.P n9)),(.e 5 (.slice Al ((R.values b).length) ka)),(.e 6 u),(.e 7 (.I ((b.params.toNat:Nat):Int))),(.e 9 (.P n86)),(.e 23 (.slice (some ⟨oby,ooy,none⟩) b.ops.length j1)),(.e 24 (.I ((b.ops.length:Nat):Int))),(.e 25 (.I ((j:Nat):Int))),(.e 91 (.I y.kind)),(.e 107 (.bool q2))] a'∧Below w25.heap.size w25 w'∧SX.Cells w' [(⟨n86,0,none⟩,(.I y.kind)),(⟨n86,1,none⟩,(.I y.dst)),(⟨n86,2,none⟩,(.I y.a)),(⟨n86,3,none⟩,(.I y.b)),(⟨n86,4,none⟩,(.I y.n)),(⟨n86,5,none⟩,(.I y.ctx)),(⟨n86,6,none⟩,(.I y.var)),(⟨n86,7,none⟩,(.I y.piece)),(⟨n86,8,none⟩,(.I y.sk)),(⟨n86,9,none⟩,(.I y.sv)),(⟨n86,10,none⟩,(.I y.sa)),(⟨oby,ooy+j*11,none⟩,(.I y.kind)),(⟨oby,ooy+j*11+1,none⟩,(.I y.dst)),(⟨oby,ooy+j*11+2,none⟩,(.I y.a)),(⟨oby,ooy+j*11+3,none⟩,(.I y.b)),(⟨oby,ooy+j*11+4,none⟩,(.I y.n)),(⟨oby,ooy+j*11+5,none⟩,(.I y.ctx)),(⟨oby,ooy+j*11+6,none⟩,(.I y.var)),(⟨oby,ooy+j*11+7,none⟩,(.I y.piece)),(⟨oby,ooy+j*11+8,none⟩,(.I y.sk)),(⟨oby,ooy+j*11+9,none⟩,(.I y.sv)),(⟨oby,ooy+j*11+10,none⟩,(.I y.sa)),(⟨n9,0,none⟩,(.I b.params)),(⟨n9,1,none⟩,(.slice (some ⟨oby,ooy,none⟩) b.ops.length j1)),(⟨n9,2,none⟩,(.I b.term.kind)),(⟨n9,3,none⟩,(.I b.term.a)),(⟨n9,4,none⟩,(.I b.term.n)),(⟨n9,5,none⟩,(.slice B2 b.term.args.length j2)),(⟨n9,6,none⟩,(.I b.term.b0)),(⟨n9,7,none⟩,(.slice B3 b.term.args0.length j3)),(⟨n9,8,none⟩,(.I b.term.b1)),(⟨n9,9,none⟩,(.slice B4 b.term.args1.length j4)),(⟨n5,0,none⟩,(.I c.params)),(⟨n5,1,none⟩,(.slice A1 c.blocks.length k1)),(⟨n5,2,none⟩,(.slice A2 c.contexts.length k2)),(⟨n5,3,none⟩,(.slice A3 c.objects.length k3))]∧(q2=(y.kind==19||y.kind==20)∧IntsOwn w' Bk u (R.upto b.params++dsts (b.ops.take (j+1))))) ?_ ?_
       ·skip
        refine wp_seq_k fun K164 hK164=>?_
        refine SX.region_q0 [.ld [],.ld []] [2,3,5,6,7,9,23,24,25,91,107] [(.e 2 (.P n5)),(.e 3 (.P n9)),(.e 5 (.slice Al ((R.values b).length) ka)),(.e 6 u),(.e 7 (.I ((b.params.toNat:Nat):Int))),(.e 9 (.P n86)),(.e 23 (.slice (some ⟨oby,ooy,none⟩) b.ops.length j1)),(.e 24 (.I ((b.ops.length:Nat):Int))),(.e 25 (.I ((j:Nat):Int))),(.e 91 (.I y.kind)),(.e 107 (.bool (y.kind==19)))] hR hM mix (by kernel_rfl) (by kernel_rfl) (by kernel_rfl) (by kernel_rfl) ?_
        clear hR hM; intro a165 w166 hR hb167 hM
        replace hB:=hB.tr hb167
        replace hkn:=hkn.below hb167
        refine hK164 _ _ ?_
        refine SX.cond_ (y.kind==19) hR (by kernel_rfl) (fun h168=>?_) (fun h168=>?_)
        ·skip
         refine wp_skip ?_
         exact ⟨(y.kind==19),hR.keep (ts:=[2,3,5,6,7,9,23,24,25,91,107]) (by kernel_rfl),hB,SX.cells_sub hM [0,1,2,3,4,5,6,7,8,9,10,11,12,13,14,15,16,17,18,19,20,21,22,23,24,25,26,27,28,29,30,31,32,33,34,35] (by kernel_rfl),⟨by simp [h168],hkn⟩⟩
        ·skip
         refine SX.region_q0 [.ld [],.ld []] [2,3,5,6,7,9,23,24,25,91,107] [(.e 2 (.P n5)),(.e 3 (.P n9)),(.e 5 (.slice Al ((R.values b).length) ka)),(.e 6 u),(.e 7 (.I ((b.params.toNat:Nat):Int))),(.e 9 (.P n86)),(.e 23 (.slice (some ⟨oby,ooy,none⟩) b.ops.length j1)),(.e 24 (.I ((b.ops.length:Nat):Int))),(.e 25 (.I ((j:Nat):Int))),(.e 91 (.I y.kind)),(.e 107 (.bool (y.kind==20)))] hR hM mix (by kernel_rfl) (by kernel_rfl) (by kernel_rfl) (by kernel_rfl) ?_
         clear hR hM; intro a169 w170 hR hb171 hM
         replace hB:=hB.tr hb171
         replace hkn:=hkn.below hb171
         exact ⟨(y.kind==20),hR.keep (ts:=[2,3,5,6,7,9,23,24,25,91,107]) (by kernel_rfl),hB,SX.cells_sub hM [0,1,2,3,4,5,6,7,8,9,10,11,12,13,14,15,16,17,18,19,20,21,22,23,24,25,26,27,28,29,30,31,32,33,34,35] (by kernel_rfl),⟨by simp [h168],hkn⟩⟩
       ·skip
        clear hR hM hB
        rintro a172 w173 ⟨q2,hR,hB,hM,hc22⟩
        obtain ⟨hq2,hkn⟩:=hc22
        refine SX.cond_ q2 hR (by kernel_rfl) (fun h174=>?_) (fun h174=>?_)
        ·skip
         refine wp_seq_k fun K175 hK175=>?_
         refine SX.region_q [(3,decide (y.n<0)),(8,(decide (y.n<0)||decide (9999<y.n))),(13,((decide (y.n<0)||decide (9999<y.n))||decide (y.ctx<0)))] [.ld [],.ld [4],.ld [],.ld [],.ld [],.ld [4],.ld [],.pk,.ld [],.ld [],.ld [5],.ld [],.pk,.ld [],.ld [],.ld [5],.ld [],.ld [34],.ld [],.ld [],.pk] [2,3,5,6,7,23,24,25,130] [(.e 2 (.P n5)),(.e 3 (.P n9)),(.e 5 (.slice Al ((R.values b).length) ka)),(.e 6 u),(.e 7 (.I ((b.params.toNat:Nat):Int))),(.e 23 (.slice (some ⟨oby,ooy,none⟩) b.ops.length j1)),(.e 24 (.I ((b.ops.length:Nat):Int))),(.e 25 (.I ((j:Nat):Int))),(.e 130 (.bool (((decide (y.n<0)||decide (9999<y.n))||decide (y.ctx<0))||decide (((c.contexts.length:Nat):Int)≤y.ctx))))] [] [] [] [] hR hM mix (by kernel_rfl) (by kernel_rfl) (by kernel_rfl) (by kernel_rfl) trivial trivial (fun w' hb' hM'=>trivial) (fun w' hb' hM'=>trivial) ?_
         clear hR hM; intro a176 w177 hR hb178 hM
         replace hB:=hB.tr hb178
         replace hkn:=hkn.below hb178
         refine hK175 _ _ ?_
         refine SX.cond_ (((decide (y.n<0)||decide (9999<y.n))||decide (y.ctx<0))||decide (((c.contexts.length:Nat):Int)≤y.ctx)) hR (by kernel_rfl) (fun h179=>?_) (fun h179=>?_)
         ·skip
          refine wp_seq_k fun K180 hK180=>?_
          refine SX.region_q0 [.ld []] [2,3,4,5,6,7,23,24,25] [(.e 2 (.P n5)),(.e 3 (.P n9)),(.e 4 (.bool false)),(.e 5 (.slice Al ((R.values b).length) ka)),(.e 6 u),(.e 7 (.I ((b.params.toNat:Nat):Int))),(.e 23 (.slice (some ⟨oby,ooy,none⟩) b.ops.length j1)),(.e 24 (.I ((b.ops.length:Nat):Int))),(.e 25 (.I ((j:Nat):Int)))] hR hM mix (by kernel_rfl) (by kernel_rfl) (by kernel_rfl) (by kernel_rfl) ?_
          clear hR hM; intro a181 w182 hR hb183 hM
          replace hB:=hB.tr hb183
          replace hkn:=hkn.below hb183
          refine hK180 _ _ ?_
          refine wp_ret ?_
          try simp only [Exit.then,Exit.inBlock,Nat.reduceEqDiff,↓reduceIte]
          refine SX.ret_ 4 (.bool false) Try.results58 hR (by kernel_rfl) ?_
          clear hR hM mix hK1 hzn5 hb4 hkn5 hln5 hn5 hzn9 qn5n9 hb8 hkn9 hln9 hn9 hb12 hK13 hb16 hb23 hb26 hK27 hb30 hK31 hK32 hb35 hm38 hK39 hK40 hb43 hK64 hK65 hb68 hm71 hK72 hb75 hK76 hK78 hK79 hb82 hzn86 hgn86hkn hb85 hkn86 hln86 hn86 hnen86 hb89 hK90 hK91 hb94 hK132 hb135 hK175 hb178 hK180 hb183
          replace hB:=hBr.tr hB
          refine ⟨ret_bool ?_,hB⟩
          rw [ops_all]
          exact allAt_no hy (by unfold stepB R.head; rw [h95,hdf,tail_mark (hq.symm.trans h151) (hq2.symm.trans h174),h179]; rfl)
         ·skip
          refine wp_skip ?_
          refine hK78 _ _ ?_
          refine SX.region_q [] [.nm (.I ((j+1:Nat):Int)),.ld []] [2,3,5,6,7,23,24,25] [(.e 2 (.P n5)),(.e 3 (.P n9)),(.e 5 (.slice Al ((R.values b).length) ka)),(.e 6 u),(.e 7 (.I ((b.params.toNat:Nat):Int))),(.e 23 (.slice (some ⟨oby,ooy,none⟩) b.ops.length j1)),(.e 24 (.I ((b.ops.length:Nat):Int))),(.e 25 (.I ((j+1:Nat):Int)))] [] [] [] [([],(.I (IntKind.i64.wrap (((j:Nat):Int)+1))),(.I ((j+1:Nat):Int)))] hR hM mix (by kernel_rfl) (by kernel_rfl) (by kernel_rfl) (by kernel_rfl) trivial ⟨fun hg=>SX.wrap_ok (by omega),trivial⟩ (fun w' hb' hM'=>trivial) (fun w' hb' hM'=>trivial) ?_
          clear hR hM; intro a184 w185 hR hb186 hM
          replace hB:=hB.tr hb186
          replace hkn:=hkn.below hb186
          exact ⟨b.ops.length-(j+1),by omega,j+1,u,rfl,by omega,hR.keep (ts:=[2,3,5,6,7,23,24,25]) (by kernel_rfl),hB,SX.cells_sub hM [22,23,24,25,26,27,28,29,30,31,32,33,34,35] (by kernel_rfl),⟨hkn,hup.step hy (by unfold stepB R.head; rw [h95,hdf]; rw [tail_mark (hq.symm.trans h151) (hq2.symm.trans h174),h179]; rfl)⟩⟩
        ·skip
         refine wp_seq_k fun K187 hK187=>?_
         refine SX.region_q0 [.ld [],.ld []] [2,3,5,6,7,9,23,24,25,131] [(.e 2 (.P n5)),(.e 3 (.P n9)),(.e 5 (.slice Al ((R.values b).length) ka)),(.e 6 u),(.e 7 (.I ((b.params.toNat:Nat):Int))),(.e 9 (.P n86)),(.e 23 (.slice (some ⟨oby,ooy,none⟩) b.ops.length j1)),(.e 24 (.I ((b.ops.length:Nat):Int))),(.e 25 (.I ((j:Nat):Int))),(.e 131 (.bool (y.kind==21)))] hR hM mix (by kernel_rfl) (by kernel_rfl) (by kernel_rfl) (by kernel_rfl) ?_
         clear hR hM; intro a188 w189 hR hb190 hM
         replace hB:=hB.tr hb190
         replace hkn:=hkn.below hb190
         refine hK187 _ _ ?_
         refine SX.cond_ (y.kind==21) hR (by kernel_rfl) (fun h191=>?_) (fun h191=>?_)
         ·skip
          refine wp_seq_k fun K192 hK192=>?_
          refine SX.region_q [(3,decide (y.ctx<0)),(11,(decide (y.ctx<0)||decide (((c.contexts.length:Nat):Int)≤y.ctx))),(16,((decide (y.ctx<0)||decide (((c.contexts.length:Nat):Int)≤y.ctx))||decide (y.var<0))),(21,(((decide (y.ctx<0)||decide (((c.contexts.length:Nat):Int)≤y.ctx))||decide (y.var<0))||decide (24≤y.var))),(26,((((decide (y.ctx<0)||decide (((c.contexts.length:Nat):Int)≤y.ctx))||decide (y.var<0))||decide (24≤y.var))||decide (y.piece<0))),(31,(((((decide (y.ctx<0)||decide (((c.contexts.length:Nat):Int)≤y.ctx))||decide (y.var<0))||decide (24≤y.var))||decide (y.piece<0))||decide (4≤y.piece)))] [.ld [],.ld [5],.ld [],.ld [],.ld [],.ld [5],.ld [],.ld [34],.ld [],.ld [],.pk,.ld [],.ld [],.ld [6],.ld [],.pk,.ld [],.ld [],.ld [6],.ld [],.pk,.ld [],.ld [],.ld [7],.ld [],.pk,.ld [],.ld [],.ld [7],.ld [],.pk,.ld [],.ld [32,33,34,35],.ld [],.ld [8,9,10],.ld [],.cl (.bool (R.source c y (R.values b))),.ld [],.pk] [2,3,5,6,7,23,24,25,171] [(.e 2 (.P n5)),(.e 3 (.P n9)),(.e 5 (.slice Al ((R.values b).length) ka)),(.e 6 u),(.e 7 (.I ((b.params.toNat:Nat):Int))),(.e 23 (.slice (some ⟨oby,ooy,none⟩) b.ops.length j1)),(.e 24 (.I ((b.ops.length:Nat):Int))),(.e 25 (.I ((j:Nat):Int))),(.e 171 (.bool ((((((decide (y.ctx<0)||decide (((c.contexts.length:Nat):Int)≤y.ctx))||decide (y.var<0))||decide (24≤y.var))||decide (y.piece<0))||decide (4≤y.piece))||(!(R.source c y (R.values b))))))] [] [] [([(31,false)],91,#[(.agg #[.I c.params,.slice A1 c.blocks.length k1,.slice A2 c.contexts.length k2,.slice A3 c.objects.length k3]),(.agg #[.I y.sk,.I y.sv,.I y.sa]),(.slice Al ((R.values b).length) ka)],(.bool (R.source c y (R.values b))))] [] hR hM mix (by kernel_rfl) (by kernel_rfl) (by kernel_rfl) (by kernel_rfl) trivial trivial (fun w' hb' hM'=>trivial) (fun w' hb' hM'=>⟨fun hg=>source_any c _ _ _ _ (h0.below (hB.tr hb')) y _ (R.values b) (hal.below (hB.tr hb')),trivial⟩) ?_
          clear hR hM; intro a193 w194 hR hb195 hM
          replace hB:=hB.tr hb195
          replace hkn:=hkn.below hb195
          refine hK192 _ _ ?_
          refine SX.cond_ ((((((decide (y.ctx<0)||decide (((c.contexts.length:Nat):Int)≤y.ctx))||decide (y.var<0))||decide (24≤y.var))||decide (y.piece<0))||decide (4≤y.piece))||(!(R.source c y (R.values b)))) hR (by kernel_rfl) (fun h196=>?_) (fun h196=>?_)
          ·skip
           refine wp_seq_k fun K197 hK197=>?_
           refine SX.region_q0 [.ld []] [2,3,4,5,6,7,23,24,25] [(.e 2 (.P n5)),(.e 3 (.P n9)),(.e 4 (.bool false)),(.e 5 (.slice Al ((R.values b).length) ka)),(.e 6 u),(.e 7 (.I ((b.params.toNat:Nat):Int))),(.e 23 (.slice (some ⟨oby,ooy,none⟩) b.ops.length j1)),(.e 24 (.I ((b.ops.length:Nat):Int))),(.e 25 (.I ((j:Nat):Int)))] hR hM mix (by kernel_rfl) (by kernel_rfl) (by kernel_rfl) (by kernel_rfl) ?_
           clear hR hM; intro a198 w199 hR hb200 hM
           replace hB:=hB.tr hb200
           replace hkn:=hkn.below hb200
           refine hK197 _ _ ?_
           refine wp_ret ?_
           try simp only [Exit.then,Exit.inBlock,Nat.reduceEqDiff,↓reduceIte]
           refine SX.ret_ 4 (.bool false) Try.results58 hR (by kernel_rfl) ?_
           clear hR hM mix hK1 hzn5 hb4 hkn5 hln5 hn5 hzn9 qn5n9 hb8 hkn9 hln9 hn9 hb12 hK13 hb16 hb23 hb26 hK27 hb30 hK31 hK32 hb35 hm38 hK39 hK40 hb43 hK64 hK65 hb68 hm71 hK72 hb75 hK76 hK78 hK79 hb82 hzn86 hgn86hkn hb85 hkn86 hln86 hn86 hnen86 hb89 hK90 hK91 hb94 hK132 hb135 hK187 hb190 hK192 hb195 hK197 hb200
           replace hB:=hBr.tr hB
           refine ⟨ret_bool ?_,hB⟩
           rw [ops_all]
           exact allAt_no hy (by unfold stepB R.head; rw [h95,hdf,tail_bind (hq.symm.trans h151) (hq2.symm.trans h174) h191,h196]; rfl)
          ·skip
           refine wp_skip ?_
           refine hK78 _ _ ?_
           refine SX.region_q [] [.nm (.I ((j+1:Nat):Int)),.ld []] [2,3,5,6,7,23,24,25] [(.e 2 (.P n5)),(.e 3 (.P n9)),(.e 5 (.slice Al ((R.values b).length) ka)),(.e 6 u),(.e 7 (.I ((b.params.toNat:Nat):Int))),(.e 23 (.slice (some ⟨oby,ooy,none⟩) b.ops.length j1)),(.e 24 (.I ((b.ops.length:Nat):Int))),(.e 25 (.I ((j+1:Nat):Int)))] [] [] [] [([],(.I (IntKind.i64.wrap (((j:Nat):Int)+1))),(.I ((j+1:Nat):Int)))] hR hM mix (by kernel_rfl) (by kernel_rfl) (by kernel_rfl) (by kernel_rfl) trivial ⟨fun hg=>SX.wrap_ok (by omega),trivial⟩ (fun w' hb' hM'=>trivial) (fun w' hb' hM'=>trivial) ?_
           clear hR hM; intro a201 w202 hR hb203 hM
           replace hB:=hB.tr hb203
           replace hkn:=hkn.below hb203
           exact ⟨b.ops.length-(j+1),by omega,j+1,u,rfl,by omega,hR.keep (ts:=[2,3,5,6,7,23,24,25]) (by kernel_rfl),hB,SX.cells_sub hM [22,23,24,25,26,27,28,29,30,31,32,33,34,35] (by kernel_rfl),⟨hkn,hup.step hy (by unfold stepB R.head; rw [h95,hdf]; rw [tail_bind (hq.symm.trans h151) (hq2.symm.trans h174) h191,h196]; rfl)⟩⟩
         ·skip
          refine wp_skip ?_
          refine hK78 _ _ ?_
          refine SX.region_q [] [.nm (.I ((j+1:Nat):Int)),.ld []] [2,3,5,6,7,23,24,25] [(.e 2 (.P n5)),(.e 3 (.P n9)),(.e 5 (.slice Al ((R.values b).length) ka)),(.e 6 u),(.e 7 (.I ((b.params.toNat:Nat):Int))),(.e 23 (.slice (some ⟨oby,ooy,none⟩) b.ops.length j1)),(.e 24 (.I ((b.ops.length:Nat):Int))),(.e 25 (.I ((j+1:Nat):Int)))] [] [] [] [([],(.I (IntKind.i64.wrap (((j:Nat):Int)+1))),(.I ((j+1:Nat):Int)))] hR hM mix (by kernel_rfl) (by kernel_rfl) (by kernel_rfl) (by kernel_rfl) trivial ⟨fun hg=>SX.wrap_ok (by omega),trivial⟩ (fun w' hb' hM'=>trivial) (fun w' hb' hM'=>trivial) ?_
          clear hR hM; intro a204 w205 hR hb206 hM
          replace hB:=hB.tr hb206
          replace hkn:=hkn.below hb206
          exact ⟨b.ops.length-(j+1),by omega,j+1,u,rfl,by omega,hR.keep (ts:=[2,3,5,6,7,23,24,25]) (by kernel_rfl),hB,SX.cells_sub hM [22,23,24,25,26,27,28,29,30,31,32,33,34,35] (by kernel_rfl),⟨hkn,hup.step hy (by unfold stepB R.head; rw [h95,hdf]; rw [tail_else (hq.symm.trans h151) (hq2.symm.trans h174) h191]; rfl)⟩⟩
  ·skip
   refine wp_exit ?_
   refine hK64 _ _ ?_
   refine wp_seq_k fun K207 hK207=>?_
   refine SX.region_q0 [.ld []] [2,3,4,5,6,7,23,24,25] [(.e 2 (.P n5)),(.e 3 (.P n9)),(.e 4 (.bool true)),(.e 5 (.slice Al ((R.values b).length) ka)),(.e 6 v),(.e 7 (.I ((b.params.toNat:Nat):Int))),(.e 23 (.slice B1 b.ops.length j1)),(.e 24 (.I ((b.ops.length:Nat):Int))),(.e 25 (.I ((j:Nat):Int)))] hR hM mix (by kernel_rfl) (by kernel_rfl) (by kernel_rfl) (by kernel_rfl) ?_
   clear hR hM; intro a208 w209 hR hb210 hM
   replace hB:=hB.tr hb210
   replace hkn:=hkn.below hb210
   refine hK207 _ _ ?_
   refine wp_ret ?_
   try simp only [Exit.then,Exit.inBlock,Nat.reduceEqDiff,↓reduceIte]
   refine SX.ret_ 4 (.bool true) Try.results58 hR (by kernel_rfl) ?_
   clear hR hM mix hK1 hzn5 hb4 hkn5 hln5 hn5 hzn9 qn5n9 hb8 hkn9 hln9 hn9 hb12 hK13 hb16 hb23 hb26 hK27 hb30 hK31 hK32 hb35 hm38 hK39 hK40 hb43 hK64 hK65 hb68 hm71 hK72 hb75 hK76 hK207 hb210
   replace hB:=hBr.tr hB
   refine ⟨ret_bool ?_,hB⟩
   rw [ops_all]
   exact hup.allAt (le_of_dec h77)
end Go.Proofs.Ytlkcidmmpeebeaa
