/- Proved: ref06.ops -/
import Derived.Test.YtlkcidmmpeebeaaValues
import Derived.Test.YtlkcidmmpeebeaaScC
set_option linter.unusedVariables false
set_option linter.unusedSimpArgs false
namespace Go.Proofs.Ytlkcidmmpeebeaa
open Go.RowKit
set_option maxRecDepth 100000
def stepB (c:CodeD) (params:Int) (all K:List Int) (o:OpD):Bool:=R.head K o&&(!R.defines o.kind||!(decide (o.dst<params)||decide (9999<o.dst)||R.has K o.dst))&&R.tail c all o
theorem opsFrom_all (c:CodeD) (params:Int) (all:List Int):∀ (os pre:List OpD),R.opsFrom c params all (R.upto params++dsts pre) os=R.allAt os (fun i o=>stepB c params all (R.upto params++dsts (pre++os.take i)) o)
 | [],pre=>rfl
 | o::os,pre=>by
  have ih:=opsFrom_all c params all os (pre++[o])
  have e1:(if R.defines o.kind then R.upto params++dsts pre++[o.dst] else R.upto params++dsts pre)=R.upto params++dsts (pre++[o]):=by
   rw [dsts_snoc]; split <;> simp
  unfold R.allAt at ih ⊢
  rw [List.length_cons,range_succ_all,R.opsFrom,e1,ih]
  simp only [List.getElem?_cons_zero,List.getElem?_cons_succ,List.take_succ_cons,List.take_zero,List.append_nil,List.append_assoc,List.singleton_append]
  rfl
theorem ops_all (c:CodeD) (b:BlockD):R.ops c b=R.allAt b.ops (fun i o=>stepB c b.params (R.values b) (R.upto b.params++dsts (b.ops.take i)) o):=by
 have h:=opsFrom_all c b.params (R.values b) b.ops []
 have e0:R.upto b.params++dsts []=R.upto b.params:=by simp [dsts]
 rw [e0] at h
 unfold R.ops; rw [h]; rfl
theorem not_in (n:Int) (m:Nat):(decide (n<0)||decide ((m:Int)≤n))=!(decide (0≤n)&&decide (n<(m:Int))):=by rw [Bool.eq_iff_iff]; simp <;> try omega
theorem tail_obj {c:CodeD} {all:List Int} {o:OpD} (h:(o.kind==15||o.kind==16||o.kind==17)=true):R.tail c all o=!(decide (o.n<0)||decide ((c.objects.length:Int)≤o.n)):=by
 unfold R.tail; rw [if_pos h,not_in]; simp
theorem tail_mark {c:CodeD} {all:List Int} {o:OpD} (h0:(o.kind==15||o.kind==16||o.kind==17)=false) (h:(o.kind==19||o.kind==20)=true):R.tail c all o=!(((decide (o.n<0)||decide (9999<o.n))||decide (o.ctx<0))||decide ((c.contexts.length:Int)≤o.ctx)):=by
 unfold R.tail; rw [if_neg (by rw [h0]; simp),if_pos h,Bool.eq_iff_iff]; simp <;> try omega
theorem tail_bind {c:CodeD} {all:List Int} {o:OpD} (h0:(o.kind==15||o.kind==16||o.kind==17)=false) (h1:(o.kind==19||o.kind==20)=false) (h:(o.kind==21)=true):R.tail c all o=!((((((decide (o.ctx<0)||decide ((c.contexts.length:Int)≤o.ctx))||decide (o.var<0))||decide (24≤o.var))||decide (o.piece<0))||decide (4≤o.piece))||(!R.source c o all)):=by
 unfold R.tail; rw [if_neg (by rw [h0]; simp),if_neg (by rw [h1]; simp),if_pos h]
 cases R.source c o all <;> (rw [Bool.eq_iff_iff]; simp; try omega)
theorem tail_else {c:CodeD} {all:List Int} {o:OpD} (h0:(o.kind==15||o.kind==16||o.kind==17)=false) (h1:(o.kind==19||o.kind==20)=false) (h:(o.kind==21)=false):R.tail c all o=true:=by
 unfold R.tail; rw [if_neg (by rw [h0]; simp),if_neg (by rw [h1]; simp),if_neg (by rw [h]; simp)]

set_option maxHeartbeats 1000000 in
theorem refOps_any (c:CodeD) (v1 v2 v3:Value) (w:World) (h:CodeAt w v1 v2 v3 c) (b:BlockD) (u1 u2 u3 u4:Value) (hb:BlkAt w u1 u2 u3 u4 b) (hbp:0≤b.params∧b.params≤999) (hol:b.ops.length≤6000):Calls Try.prog 58 #[(.agg #[.I c.params,v1,v2,v3]),(.agg #[.I b.params,u1,.I b.term.kind,.I b.term.a,.I b.term.n,u2,.I b.term.b0,u3,.I b.term.b1,u4])] w fun e w'=>e=.returned (.bool (R.ops c b))∧Below w.heap.size w w':=by
 have h0:=h
 obtain ⟨A1,k1,rfl,s1⟩:=h.2.1.shape
 obtain ⟨A2,k2,rfl,s2⟩:=h.2.2.1.shape
 obtain ⟨A3,k3,rfl,s3⟩:=h.2.2.2.shape
 unfold Shape at s1 s2 s3
 have hb0:=hb
 obtain ⟨B1,j1,rfl,t1⟩:=hb.2.1.shape
 obtain ⟨B2,j2,rfl,t2⟩:=hb.2.2.1.shape
 obtain ⟨B3,j3,rfl,t3⟩:=hb.2.2.2.1.shape
 obtain ⟨B4,j4,rfl,t4⟩:=hb.2.2.2.2.shape
 unfold Shape at t1 t2 t3 t4
 have mix:=mixed
 have hB:Below w.heap.size w w:=Below.refl _ _
 have hM:SX.Cells w []:=SX.cells_nil
 refine SX.enter [(.agg #[.I c.params,.slice A1 c.blocks.length k1,.slice A2 c.contexts.length k2,.slice A3 c.objects.length k3]),(.agg #[.I b.params,.slice B1 b.ops.length j1,.I b.term.kind,.I b.term.a,.I b.term.n,.slice B2 b.term.args.length j2,.I b.term.b0,.slice B3 b.term.args0.length j3,.I b.term.b1,.slice B4 b.term.args1.length j4])] 173 Try.func58 rfl rfl (by kernel_rfl) ?_
 intro a hR
 refine wp_seq_k fun K1 hK1=>?_
 refine SX.region_l ?_
 obtain ⟨n5,hn5⟩:∃ n,w.heap.size=n:=⟨_,rfl⟩
 have hzn5:w.heap.size≤n5:=by have:=hB.size; omega
 refine SX.list_box 0 n5 [(.I c.params),(.slice A1 c.blocks.length k1),(.slice A2 c.contexts.length k2),(.slice A3 c.objects.length k3)] 26 ((.e 2 (.P n5))::[(.e 0 (.agg #[.I c.params,.slice A1 c.blocks.length k1,.slice A2 c.contexts.length k2,.slice A3 c.objects.length k3])),(.e 1 (.agg #[.I b.params,.slice B1 b.ops.length j1,.I b.term.kind,.I b.term.a,.I b.term.n,.slice B2 b.term.args.length j2,.I b.term.b0,.slice B3 b.term.args0.length j3,.I b.term.b1,.slice B4 b.term.args1.length j4]))]) [(⟨n5,0,none⟩,(.I c.params)),(⟨n5,1,none⟩,(.slice A1 c.blocks.length k1)),(⟨n5,2,none⟩,(.slice A2 c.contexts.length k2)),(⟨n5,3,none⟩,(.slice A3 c.objects.length k3))] hR hM hn5 (by kernel_rfl) (by kernel_rfl) ?_
 clear hR hM; intro a2 w3 hR hb4 hM hkn5 hln5
 replace hB:=hB.tr hb4
 replace hR:SX.RSt 173 [] [(.e 1 (.agg #[.I b.params,.slice B1 b.ops.length j1,.I b.term.kind,.I b.term.a,.I b.term.n,.slice B2 b.term.args.length j2,.I b.term.b0,.slice B3 b.term.args0.length j3,.I b.term.b1,.slice B4 b.term.args1.length j4])),(.e 2 (.P n5))] a2:=hR.keep (ts:=[1,2]) (by kernel_rfl)
 obtain ⟨n9,hn9⟩:∃ n,w3.heap.size=n:=⟨_,rfl⟩
 have hzn9:w.heap.size≤n9:=by have:=hB.size; omega
 have qn5n9:n5<n9:=by have:=(Array.getElem?_eq_some_iff.1 hkn5).1; omega
 refine SX.list_box 1 n9 [(.I b.params),(.slice B1 b.ops.length j1),(.I b.term.kind),(.I b.term.a),(.I b.term.n),(.slice B2 b.term.args.length j2),(.I b.term.b0),(.slice B3 b.term.args0.length j3),(.I b.term.b1),(.slice B4 b.term.args1.length j4)] 62 ((.e 3 (.P n9))::[(.e 1 (.agg #[.I b.params,.slice B1 b.ops.length j1,.I b.term.kind,.I b.term.a,.I b.term.n,.slice B2 b.term.args.length j2,.I b.term.b0,.slice B3 b.term.args0.length j3,.I b.term.b1,.slice B4 b.term.args1.length j4])),(.e 2 (.P n5))]) [(⟨n9,0,none⟩,(.I b.params)),(⟨n9,1,none⟩,(.slice B1 b.ops.length j1)),(⟨n9,2,none⟩,(.I b.term.kind)),(⟨n9,3,none⟩,(.I b.term.a)),(⟨n9,4,none⟩,(.I b.term.n)),(⟨n9,5,none⟩,(.slice B2 b.term.args.length j2)),(⟨n9,6,none⟩,(.I b.term.b0)),(⟨n9,7,none⟩,(.slice B3 b.term.args0.length j3)),(⟨n9,8,none⟩,(.I b.term.b1)),(⟨n9,9,none⟩,(.slice B4 b.term.args1.length j4)),(⟨n5,0,none⟩,(.I c.params)),(⟨n5,1,none⟩,(.slice A1 c.blocks.length k1)),(⟨n5,2,none⟩,(.slice A2 c.contexts.length k2)),(⟨n5,3,none⟩,(.slice A3 c.objects.length k3))] hR hM hn9 (by kernel_rfl) (by kernel_rfl) ?_
 clear hR hM; intro a6 w7 hR hb8 hM hkn9 hln9
 replace hB:=hB.tr hb8
 replace hkn5:=SX.blk_below hkn5 hb8
 replace hR:SX.RSt 173 [] [(.e 2 (.P n5)),(.e 3 (.P n9))] a6:=hR.keep (ts:=[2,3]) (by kernel_rfl)
 refine SX.list_q0 (κ:=[]) 2 1 [.ld []] [2,3] [(.e 2 (.P n5)),(.e 3 (.P n9))] hR hM (by kernel_rfl) (by kernel_rfl) ?_
 clear hR hM; intro a10 w11 hR hb12 hM
 replace hB:=hB.tr hb12
 replace hkn5:=SX.blk_below hkn5 hb12
 replace hkn9:=SX.blk_below hkn9 hb12
 refine SX.list_end 3 (by kernel_rfl) ?_
 refine hK1 _ _ ?_
 refine wp_seq_k fun K13 hK13=>?_
 refine SX.region_l ?_
 refine SX.list_q0 (κ:=[]) 0 1 [.ld [0,1,2,3,4,5,6,7,8,9]] [2,3,10] [(.e 2 (.P n5)),(.e 3 (.P n9)),(.e 10 (.agg #[.I b.params,.slice B1 b.ops.length j1,.I b.term.kind,.I b.term.a,.I b.term.n,.slice B2 b.term.args.length j2,.I b.term.b0,.slice B3 b.term.args0.length j3,.I b.term.b1,.slice B4 b.term.args1.length j4]))] hR hM (by kernel_rfl) (by kernel_rfl) ?_
 clear hR hM; intro a14 w15 hR hb16 hM
 replace hB:=hB.tr hb16
 replace hkn5:=SX.blk_below hkn5 hb16
 replace hkn9:=SX.blk_below hkn9 hb16
 have hlwn5:=(Array.getElem?_eq_some_iff.1 hkn5).1
 have hlwn9:=(Array.getElem?_eq_some_iff.1 hkn9).1
 refine SX.list_callR 1 11 86 #[(.agg #[.I b.params,.slice B1 b.ops.length j1,.I b.term.kind,.I b.term.a,.I b.term.n,.slice B2 b.term.args.length j2,.I b.term.b0,.slice B3 b.term.args0.length j3,.I b.term.b1,.slice B4 b.term.args1.length j4])] hR (by kernel_rfl) (by kernel_rfl) (values_any _ b _ _ _ _ (hb0.below hB) hbp hol) ?_
 clear hR; intro v20 a21 w22 hR hb23 hphi; replace hM:=hM.below hb23
 replace hB:=hB.tr hb23
 replace hkn5:=SX.blk_below hkn5 hb23
 replace hkn9:=SX.blk_below hkn9 hb23
 obtain ⟨hal,_⟩:=hphi
 obtain ⟨Al,ka,rfl,sal⟩:=hal.shape
 replace hR:SX.RSt 173 [] [(.e 2 (.P n5)),(.e 3 (.P n9)),(.e 11 (.slice Al ((R.values b).length) ka))] a21:=hR.keep (ts:=[2,3,11]) (by kernel_rfl)
 refine SX.list_q0 (κ:=[]) 2 1 [.ld []] [2,3,5] [(.e 2 (.P n5)),(.e 3 (.P n9)),(.e 5 (.slice Al ((R.values b).length) ka))] hR hM (by kernel_rfl) (by kernel_rfl) ?_
 clear hR hM; intro a24 w25 hR hb26 hM
 replace hB:=hB.tr hb26
 replace hal:=hal.below hb26
 replace hkn5:=SX.blk_below hkn5 hb26
 replace hkn9:=SX.blk_below hkn9 hb26
 refine SX.list_end 3 (by kernel_rfl) ?_
 have hBr:=hB
 replace h0:=h0.below hBr
 replace hb0:=hb0.below hBr
 clear hB; have hB:Below w25.heap.size w25 w25:=Below.refl _ _
 refine hK13 _ _ ?_
 refine SX.qs [.ld []] [2,3,5,6] [(.e 6 (.slice none 0 0))] hR hM hB mix fun a27 w28 hR hb29 hB hM=>?_
 replace hkn5:=SX.blk_below hkn5 hb29
 replace hkn9:=SX.blk_below hkn9 hb29
 obtain ⟨Bk,hBk⟩:∃ n,w28.heap.size=n:=⟨_,rfl⟩
 have hzBk:w25.heap.size≤Bk:=by have:=hB.size; omega
 have qn5Bk:n5<Bk:=by have:=(Array.getElem?_eq_some_iff.1 hkn5).1; omega
 have qn9Bk:n9<Bk:=by have:=(Array.getElem?_eq_some_iff.1 hkn9).1; omega
 have hkn:IntsOwn w28 Bk (.slice none 0 0) []:=IntsOwn.nil (by omega)
 clear hBk
 refine wp_seq_k fun K30 hK30=>?_
 refine SX.qs [.ld []] [2,3,5,6,7] [(.e 7 (.I 0))] hR hM hB mix fun a31 w32 hR hb33 hB hM=>?_
 replace hkn:=hkn.below hb33
 replace hkn5:=SX.blk_below hkn5 hb33
 replace hkn9:=SX.blk_below hkn9 hb33
 refine wp_block ?_
 refine wp_loop_ghost (fun m36 a' w'=>∃ k:Nat,∃ v:Value,m36=b.params.toNat-k∧k≤b.params.toNat∧SX.RSt 173 [] [(.e 2 (.P n5)),(.e 3 (.P n9)),(.e 5 (.slice Al ((R.values b).length) ka)),(.e 6 v),(.e 7 (.I (k:Int)))] a'∧Below w25.heap.size w25 w'∧SX.Cells w' [(⟨n9,0,none⟩,(.I b.params)),(⟨n9,1,none⟩,(.slice B1 b.ops.length j1)),(⟨n9,2,none⟩,(.I b.term.kind)),(⟨n9,3,none⟩,(.I b.term.a)),(⟨n9,4,none⟩,(.I b.term.n)),(⟨n9,5,none⟩,(.slice B2 b.term.args.length j2)),(⟨n9,6,none⟩,(.I b.term.b0)),(⟨n9,7,none⟩,(.slice B3 b.term.args0.length j3)),(⟨n9,8,none⟩,(.I b.term.b1)),(⟨n9,9,none⟩,(.slice B4 b.term.args1.length j4)),(⟨n5,0,none⟩,(.I c.params)),(⟨n5,1,none⟩,(.slice A1 c.blocks.length k1)),(⟨n5,2,none⟩,(.slice A2 c.contexts.length k2)),(⟨n5,3,none⟩,(.slice A3 c.objects.length k3))]∧IntsOwn w' Bk v (uptoN (k))) (b.params.toNat-0) ⟨0,(.slice none 0 0),rfl,Nat.zero_le _,hR.keep (ts:=[2,3,5,6,7]) (by kernel_rfl),hB,hM,hkn⟩ ?_
 clear hR hM hB
 rintro m36 a34 w35 ⟨k,v,hm36,hlek,hR,hB,hM,hIk⟩
 have hkn:=hIk
 refine wp_seq_k fun K37 hK37=>?_
 refine SX.qs [.ld [],.ld [],.ld [0],.ld []] [2,3,5,6,7,15] [(.e 15 (.bool (decide ((k:Int)<b.params))))] hR hM hB mix fun a38 w39 hR hb40 hB hM=>?_
 replace hkn:=hkn.below hb40
 refine SX.cond_ (decide ((k:Int)<b.params)) hR (by kernel_rfl) (fun h41=>?_) (fun h41=>?_)
 ·skip
  refine wp_skip ?_
  refine hK37 _ _ ?_
  refine wp_seq_k fun K42 hK42=>?_
  refine wp_block ?_
  have hlt:k<b.params.toNat:=by have:=of_decide_eq_true h41; omega
  refine SX.region_l ?_
  refine SX.list_q0 (κ:=[]) 0 2 [.ld [],.ld []] [2,3,5,6,7,18,19] [(.e 2 (.P n5)),(.e 3 (.P n9)),(.e 5 (.slice Al ((R.values b).length) ka)),(.e 6 v),(.e 7 (.I (k:Int))),(.e 18 v),(.e 19 (.I (k:Int)))] hR hM (by kernel_rfl) (by kernel_rfl) ?_
  clear hR hM; intro a43 w44 hR hb45 hM
  replace hB:=hB.tr hb45
  replace hkn:=hkn.below hb45
  obtain ⟨n49,hn49⟩:∃ n,w44.heap.size=n:=⟨_,rfl⟩
  have hzn49:w25.heap.size≤n49:=by have:=hB.size; omega
  have hgn49hkn:=hkn.lt hn49
  refine SX.list_box 2 n49 [(.I (k:Int))] 3 ((.e 20 (.slice (some ⟨n49,0,none⟩) 1 1))::[(.e 2 (.P n5)),(.e 3 (.P n9)),(.e 5 (.slice Al ((R.values b).length) ka)),(.e 6 v),(.e 7 (.I (k:Int))),(.e 18 v),(.e 19 (.I (k:Int)))]) [(⟨n49,0,none⟩,(.I (k:Int))),(⟨n9,0,none⟩,(.I b.params)),(⟨n9,1,none⟩,(.slice B1 b.ops.length j1)),(⟨n9,2,none⟩,(.I b.term.kind)),(⟨n9,3,none⟩,(.I b.term.a)),(⟨n9,4,none⟩,(.I b.term.n)),(⟨n9,5,none⟩,(.slice B2 b.term.args.length j2)),(⟨n9,6,none⟩,(.I b.term.b0)),(⟨n9,7,none⟩,(.slice B3 b.term.args0.length j3)),(⟨n9,8,none⟩,(.I b.term.b1)),(⟨n9,9,none⟩,(.slice B4 b.term.args1.length j4)),(⟨n5,0,none⟩,(.I c.params)),(⟨n5,1,none⟩,(.slice A1 c.blocks.length k1)),(⟨n5,2,none⟩,(.slice A2 c.contexts.length k2)),(⟨n5,3,none⟩,(.slice A3 c.objects.length k3))] hR hM hn49 (by kernel_rfl) (by kernel_rfl) ?_
  clear hR hM; intro a46 w47 hR hb48 hM hkn49 hln49
  replace hB:=hB.tr hb48
  replace hkn:=hkn.below hb48
  replace hR:SX.RSt 173 [] [(.e 2 (.P n5)),(.e 3 (.P n9)),(.e 5 (.slice Al ((R.values b).length) ka)),(.e 6 v),(.e 7 (.I (k:Int))),(.e 18 v),(.e 20 (.slice (some ⟨n49,0,none⟩) 1 1))] a46:=hR.keep (ts:=[2,3,5,6,7,18,20]) (by kernel_rfl)
  obtain ⟨v50,w51,hrun,hown2,hgr53⟩:=appI_run hkn n49 (k:Int) (hM (⟨n49,0,none⟩,(.I (k:Int))) (SX.mget_mem (i:=0) (by kernel_rfl))) (by unfold I64; omega) (by rw [uptoN_len]; omega)
  refine SX.list_run 3 (some 21) (appS 35 35 v (.slice (some ⟨n49,0,none⟩) 1 1)) v50 hR (by kernel_rfl) (by kernel_rfl) hrun ?_
  clear hR hrun; intro a52 hR
  have hgee54:=hkn.ge
  have hqn49e54:∀ g,v.ownBlock=some g→n49≠g:=fun g hg=>by have h1:=hgee54 g hg; have h2:=hgn49hkn g hg; omega
  have hqn9e54:∀ g,v.ownBlock=some g→n9≠g:=fun g hg=>by have h1:=hgee54 g hg; omega
  have hqn5e54:∀ g,v.ownBlock=some g→n5≠g:=fun g hg=>by have h1:=hgee54 g hg; omega
  replace hB:=hB.grown hgr53 hB.size (fun g hg=>by have h1:=hgee54 g hg; omega)
  replace hM:=cells_grown hM hgr53 (gne_cons hqn49e54 (gne_cons hqn9e54 (gne_cons hqn9e54 (gne_cons hqn9e54 (gne_cons hqn9e54 (gne_cons hqn9e54 (gne_cons hqn9e54 (gne_cons hqn9e54 (gne_cons hqn9e54 (gne_cons hqn9e54 (gne_cons hqn9e54 (gne_cons hqn5e54 (gne_cons hqn5e54 (gne_cons hqn5e54 (gne_cons hqn5e54 gne_nil)))))))))))))))
  replace hkn49:=(hgr53.block _ (Array.getElem?_eq_some_iff.1 hkn49).1 (fun e=>(show ∀ g,v.ownBlock=some g→n49≠g from fun g hg=>by have h1:=hgee54 g hg; have h2:=hgn49hkn g hg; omega) _ e.symm rfl)).trans hkn49
  clear hkn; have hkn:=hown2; clear hown2
  replace hR:SX.RSt 173 [] [(.e 2 (.P n5)),(.e 3 (.P n9)),(.e 5 (.slice Al ((R.values b).length) ka)),(.e 6 v),(.e 7 (.I (k:Int))),(.e 21 v50)] a52:=hR.keep (ts:=[2,3,5,6,7,21]) (by kernel_rfl)
  refine SX.list_q0 (κ:=[]) 4 1 [.ld []] [2,3,5,6,7] [(.e 2 (.P n5)),(.e 3 (.P n9)),(.e 5 (.slice Al ((R.values b).length) ka)),(.e 6 v50),(.e 7 (.I (k:Int)))] hR hM (by kernel_rfl) (by kernel_rfl) ?_
  clear hR hM; intro a55 w56 hR hb57 hM
  replace hB:=hB.tr hb57
  replace hkn:=hkn.below hb57
  replace hkn49:=SX.blk_below hkn49 hb57
  refine SX.list_end 5 (by kernel_rfl) ?_
  refine hK42 _ _ ?_
  refine SX.qf0 [] [.ld [],.nm (.I ((k+1:Nat):Int)),.ld []] [2,3,5,6,7] [(.e 7 (.I ((k+1:Nat):Int)))] [] [] [] [([],(.I (IntKind.i64.wrap ((k:Int)+1))),(.I ((k+1:Nat):Int)))] hR hM hB mix trivial ⟨fun hg=>SX.wrap_ok (by omega),trivial⟩ (fun w' hb' hM'=>trivial) (fun w' hb' hM'=>trivial) fun a58 w59 hR hb60 hB hM=>?_
  replace hkn:=hkn.below hb60
  replace hkn49:=SX.blk_below hkn49 hb60
  exact ⟨b.params.toNat-(k+1),by omega,k+1,v50,rfl,by omega,hR.keep (ts:=[2,3,5,6,7]) (by kernel_rfl),hB,SX.cells_sub hM [1,2,3,4,5,6,7,8,9,10,11,12,13,14] (by kernel_rfl),by rw [uptoN_succ]; exact hkn⟩
 ·skip
  refine wp_exit ?_
  refine hK30 _ _ ?_
  refine wp_seq_k fun K61 hK61=>?_
  obtain rfl:k=b.params.toNat:=by have:=of_decide_eq_false h41; omega
  rw [← upto_eq] at hkn
  refine SX.qs [.ld [],.ld [1],.ld [],.ld []] [2,3,5,6,7,23,24,25] [(.e 23 (.slice B1 b.ops.length j1)),(.e 24 (.I (b.ops.length:Int))),(.e 25 (.I 0))] hR hM hB mix fun a62 w63 hR hb64 hB hM=>?_
  replace hkn:=hkn.below hb64
  refine wp_block ?_
  refine wp_loop_ghost (fun m67 a' w'=>∃ j:Nat,∃ v:Value,m67=b.ops.length-j∧j≤b.ops.length∧SX.RSt 173 [] [(.e 2 (.P n5)),(.e 3 (.P n9)),(.e 5 (.slice Al ((R.values b).length) ka)),(.e 6 v),(.e 7 (.I (b.params.toNat:Int))),(.e 23 (.slice B1 b.ops.length j1)),(.e 24 (.I (b.ops.length:Int))),(.e 25 (.I (j:Int)))] a'∧Below w25.heap.size w25 w'∧SX.Cells w' [(⟨n9,0,none⟩,(.I b.params)),(⟨n9,1,none⟩,(.slice B1 b.ops.length j1)),(⟨n9,2,none⟩,(.I b.term.kind)),(⟨n9,3,none⟩,(.I b.term.a)),(⟨n9,4,none⟩,(.I b.term.n)),(⟨n9,5,none⟩,(.slice B2 b.term.args.length j2)),(⟨n9,6,none⟩,(.I b.term.b0)),(⟨n9,7,none⟩,(.slice B3 b.term.args0.length j3)),(⟨n9,8,none⟩,(.I b.term.b1)),(⟨n9,9,none⟩,(.slice B4 b.term.args1.length j4)),(⟨n5,0,none⟩,(.I c.params)),(⟨n5,1,none⟩,(.slice A1 c.blocks.length k1)),(⟨n5,2,none⟩,(.slice A2 c.contexts.length k2)),(⟨n5,3,none⟩,(.slice A3 c.objects.length k3))]∧(IntsOwn w' Bk v (R.upto b.params++dsts (b.ops.take (j)))∧Upto b.ops (fun i o=>stepB c b.params (R.values b) (R.upto b.params++dsts (b.ops.take i)) o) (j))) (b.ops.length-0) ⟨0,v,rfl,Nat.zero_le _,hR.keep (ts:=[2,3,5,6,7,23,24,25]) (by kernel_rfl),hB,hM,⟨by rw [List.take_zero]; simpa [dsts] using hkn,Upto.zero⟩⟩ ?_
  clear hR hM hB
  rintro m67 a65 w66 ⟨j,v,hm67,hlej,hR,hB,hM,hIj⟩
  obtain ⟨hkn,hup⟩:=hIj
  refine SX.qs [.ld []] [2,3,5,6,7,23,24,25,26] [(.e 26 (.bool (decide ((j:Int)<(b.ops.length:Int)))))] hR hM hB mix fun a68 w69 hR hb70 hB hM=>?_
  replace hkn:=hkn.below hb70
  refine wp_seq_k fun K71 hK71=>?_
  refine SX.cond_ (decide ((j:Int)<(b.ops.length:Int))) hR (by kernel_rfl) (fun h72=>?_) (fun h72=>?_)
  ·skip
   refine wp_skip ?_
   refine hK71 _ _ ?_
   refine wp_seq_k fun K73 hK73=>?_
   refine wp_block ?_
   refine wp_seq_k fun K74 hK74=>?_
   have hlt:j<b.ops.length:=lt_of_dec h72
   obtain ⟨y,hy⟩:=get_of_lt hlt
   obtain ⟨oby,ooy,hAy,hiy,co0y,co1y,co2y,co3y,co4y,co5y,co6y,co7y,co8y,co9y,co10y⟩:=hb0.2.1.elem hy
   subst hAy
   have hoy:oby<w25.heap.size:=World.block_lt_of_cell? w25 _ co0y
   replace hM:=(SX.cells_add (cell_below hB co0y) (SX.cells_add (cell_below hB co1y) (SX.cells_add (cell_below hB co2y) (SX.cells_add (cell_below hB co3y) (SX.cells_add (cell_below hB co4y) (SX.cells_add (cell_below hB co5y) (SX.cells_add (cell_below hB co6y) (SX.cells_add (cell_below hB co7y) (SX.cells_add (cell_below hB co8y) (SX.cells_add (cell_below hB co9y) (SX.cells_add (cell_below hB co10y) hM)))))))))))
   refine SX.region_l ?_
   refine SX.list_q (κ:=[]) 0 2 [.ix ⟨oby,ooy+j*11,none⟩,.ld [0,1,2,3,4,5,6,7,8,9,10]] [2,3,5,6,7,23,24,25,28] [(.e 2 (.P n5)),(.e 3 (.P n9)),(.e 5 (.slice Al ((R.values b).length) ka)),(.e 6 v),(.e 7 (.I (b.params.toNat:Int))),(.e 23 (.slice (some ⟨oby,ooy,none⟩) b.ops.length j1)),(.e 24 (.I (b.ops.length:Int))),(.e 25 (.I (j:Int))),(.e 28 (.agg #[.I y.kind,.I y.dst,.I y.a,.I y.b,.I y.n,.I y.ctx,.I y.var,.I y.piece,.I y.sk,.I y.sv,.I y.sa]))] [([],⟨oby,ooy,none⟩,b.ops.length,(j:Int),11,⟨oby,ooy+j*11,none⟩)] [] [] [] hR hM (by kernel_rfl) (by kernel_rfl) ⟨fun hg=>SX.ix_ok (by omega),trivial⟩ trivial (fun w' hb' hM'=>trivial) (fun w' hb' hM'=>trivial) ?_
   clear hR hM; intro a75 w76 hR hb77 hM
   replace hB:=hB.tr hb77
   replace hkn:=hkn.below hb77
   obtain ⟨n81,hn81⟩:∃ n,w76.heap.size=n:=⟨_,rfl⟩
   have hzn81:w25.heap.size≤n81:=by have:=hB.size; omega
   have hgn81hkn:=hkn.lt hn81
   refine SX.list_alloc 2 n81 [(.I 0),(.I 0),(.I 0),(.I 0),(.I 0),(.I 0),(.I 0),(.I 0),(.I 0),(.I 0),(.I 0)] 74 ((.e 9 (.P n81))::[(.e 2 (.P n5)),(.e 3 (.P n9)),(.e 5 (.slice Al ((R.values b).length) ka)),(.e 6 v),(.e 7 (.I (b.params.toNat:Int))),(.e 23 (.slice (some ⟨oby,ooy,none⟩) b.ops.length j1)),(.e 24 (.I (b.ops.length:Int))),(.e 25 (.I (j:Int))),(.e 28 (.agg #[.I y.kind,.I y.dst,.I y.a,.I y.b,.I y.n,.I y.ctx,.I y.var,.I y.piece,.I y.sk,.I y.sv,.I y.sa]))]) hR hM hn81 (by kernel_rfl) ?_
   clear hR hM; intro a78 w79 hR hb80 hM hkn81 hln81 hnen81
   replace hB:=hB.tr hb80
   replace hkn:=hkn.below hb80
   replace hR:SX.RSt 173 [] [(.e 2 (.P n5)),(.e 3 (.P n9)),(.e 5 (.slice Al ((R.values b).length) ka)),(.e 6 v),(.e 7 (.I (b.params.toNat:Int))),(.e 9 (.P n81)),(.e 23 (.slice (some ⟨oby,ooy,none⟩) b.ops.length j1)),(.e 24 (.I (b.ops.length:Int))),(.e 25 (.I (j:Int))),(.e 28 (.agg #[.I y.kind,.I y.dst,.I y.a,.I y.b,.I y.n,.I y.ctx,.I y.var,.I y.piece,.I y.sk,.I y.sv,.I y.sa]))] a78:=hR.keep (ts:=[2,3,5,6,7,9,23,24,25,28]) (by kernel_rfl)
   refine SX.list_store 3 [(0,(.I y.kind)),(1,(.I y.dst)),(2,(.I y.a)),(3,(.I y.b)),(4,(.I y.n)),(5,(.I y.ctx)),(6,(.I y.var)),(7,(.I y.piece)),(8,(.I y.sk)),(9,(.I y.sv)),(10,(.I y.sa))] [(.I y.kind),(.I y.dst),(.I y.a),(.I y.b),(.I y.n),(.I y.ctx),(.I y.var),(.I y.piece),(.I y.sk),(.I y.sv),(.I y.sa)] [(⟨oby,ooy+j*11,none⟩,(.I y.kind)),(⟨oby,ooy+j*11+1,none⟩,(.I y.dst)),(⟨oby,ooy+j*11+2,none⟩,(.I y.a)),(⟨oby,ooy+j*11+3,none⟩,(.I y.b)),(⟨oby,ooy+j*11+4,none⟩,(.I y.n)),(⟨oby,ooy+j*11+5,none⟩,(.I y.ctx)),(⟨oby,ooy+j*11+6,none⟩,(.I y.var)),(⟨oby,ooy+j*11+7,none⟩,(.I y.piece)),(⟨oby,ooy+j*11+8,none⟩,(.I y.sk)),(⟨oby,ooy+j*11+9,none⟩,(.I y.sv)),(⟨oby,ooy+j*11+10,none⟩,(.I y.sa)),(⟨n9,0,none⟩,(.I b.params)),(⟨n9,1,none⟩,(.slice (some ⟨oby,ooy,none⟩) b.ops.length j1)),(⟨n9,2,none⟩,(.I b.term.kind)),(⟨n9,3,none⟩,(.I b.term.a)),(⟨n9,4,none⟩,(.I b.term.n)),(⟨n9,5,none⟩,(.slice B2 b.term.args.length j2)),(⟨n9,6,none⟩,(.I b.term.b0)),(⟨n9,7,none⟩,(.slice B3 b.term.args0.length j3)),(⟨n9,8,none⟩,(.I b.term.b1)),(⟨n9,9,none⟩,(.slice B4 b.term.args1.length j4)),(⟨n5,0,none⟩,(.I c.params)),(⟨n5,1,none⟩,(.slice A1 c.blocks.length k1)),(⟨n5,2,none⟩,(.slice A2 c.contexts.length k2)),(⟨n5,3,none⟩,(.slice A3 c.objects.length k3))] [(⟨n81,0,none⟩,(.I y.kind)),(⟨n81,1,none⟩,(.I y.dst)),(⟨n81,2,none⟩,(.I y.a)),(⟨n81,3,none⟩,(.I y.b)),(⟨n81,4,none⟩,(.I y.n)),(⟨n81,5,none⟩,(.I y.ctx)),(⟨n81,6,none⟩,(.I y.var)),(⟨n81,7,none⟩,(.I y.piece)),(⟨n81,8,none⟩,(.I y.sk)),(⟨n81,9,none⟩,(.I y.sv)),(⟨n81,10,none⟩,(.I y.sa)),(⟨oby,ooy+j*11,none⟩,(.I y.kind)),(⟨oby,ooy+j*11+1,none⟩,(.I y.dst)),(⟨oby,ooy+j*11+2,none⟩,(.I y.a)),(⟨oby,ooy+j*11+3,none⟩,(.I y.b)),(⟨oby,ooy+j*11+4,none⟩,(.I y.n)),(⟨oby,ooy+j*11+5,none⟩,(.I y.ctx)),(⟨oby,ooy+j*11+6,none⟩,(.I y.var)),(⟨oby,ooy+j*11+7,none⟩,(.I y.piece)),(⟨oby,ooy+j*11+8,none⟩,(.I y.sk)),(⟨oby,ooy+j*11+9,none⟩,(.I y.sv)),(⟨oby,ooy+j*11+10,none⟩,(.I y.sa)),(⟨n9,0,none⟩,(.I b.params)),(⟨n9,1,none⟩,(.slice (some ⟨oby,ooy,none⟩) b.ops.length j1)),(⟨n9,2,none⟩,(.I b.term.kind)),(⟨n9,3,none⟩,(.I b.term.a)),(⟨n9,4,none⟩,(.I b.term.n)),(⟨n9,5,none⟩,(.slice B2 b.term.args.length j2)),(⟨n9,6,none⟩,(.I b.term.b0)),(⟨n9,7,none⟩,(.slice B3 b.term.args0.length j3)),(⟨n9,8,none⟩,(.I b.term.b1)),(⟨n9,9,none⟩,(.slice B4 b.term.args1.length j4)),(⟨n5,0,none⟩,(.I c.params)),(⟨n5,1,none⟩,(.slice A1 c.blocks.length k1)),(⟨n5,2,none⟩,(.slice A2 c.contexts.length k2)),(⟨n5,3,none⟩,(.slice A3 c.objects.length k3))] hR (SX.cells_sub hM [0,1,2,3,4,5,6,7,8,9,10,11,12,13,14,15,16,17,18,19,20,21,22,23,24] (by kernel_rfl)) hnen81 hkn81 (by kernel_rfl) (by kernel_rfl) (by kernel_rfl) ?_
   clear hR hM hkn81; intro a82 w83 hR hb84 hM hkn81
   replace hB:=hB.trans (hb84.below (by omega))
   replace hkn:=hkn.but hb84 (fun g hg=>Nat.ne_of_lt (hgn81hkn g hg))
   refine SX.list_end 4 (by kernel_rfl) ?_
   refine hK74 _ _ ?_
   refine wp_seq_k fun K85 hK85=>?_
   refine SX.qf [(3,decide (y.kind<1)),(8,(decide (y.kind<1)||decide (21<y.kind))),(13,((decide (y.kind<1)||decide (21<y.kind))||(!(R.plain y)))),(17,(R.usesA y.kind)),(25,(((decide (y.kind<1)||decide (21<y.kind))||(!(R.plain y)))||((R.usesA y.kind)&&(!(R.has (R.upto b.params++dsts (b.ops.take (j))) y.a))))),(29,(R.usesB y.kind))] [.ld [],.ld [0],.ld [],.ld [],.ld [],.ld [0],.ld [],.pk,.ld [],.ld [0,1,2,3,4,5,6,7,8,9,10],.cl (.bool (R.plain y)),.ld [],.pk,.ld [],.ld [],.ld [0],.cl (.bool (R.usesA y.kind)),.ld [],.ld [],.ld [],.ld [2],.cl (.bool (R.has (R.upto b.params++dsts (b.ops.take (j))) y.a)),.ld [],.pk,.pk,.ld [],.ld [],.ld [0],.cl (.bool (R.usesB y.kind)),.ld [],.ld [],.ld [],.ld [3],.cl (.bool (R.has (R.upto b.params++dsts (b.ops.take (j))) y.b)),.ld [],.pk,.pk] [2,3,5,6,7,9,23,24,25,65] [(.e 65 (.bool ((((decide (y.kind<1)||decide (21<y.kind))||(!(R.plain y)))||((R.usesA y.kind)&&(!(R.has (R.upto b.params++dsts (b.ops.take (j))) y.a))))||((R.usesB y.kind)&&(!(R.has (R.upto b.params++dsts (b.ops.take (j))) y.b))))))] [] [] [([(8,false)],87,#[(.agg #[.I y.kind,.I y.dst,.I y.a,.I y.b,.I y.n,.I y.ctx,.I y.var,.I y.piece,.I y.sk,.I y.sv,.I y.sa])],(.bool (R.plain y))),([(13,false)],88,#[(.I y.kind)],(.bool (R.usesA y.kind))),([(17,true),(13,false)],71,#[v,(.I y.a)],(.bool (R.has (R.upto b.params++dsts (b.ops.take (j))) y.a))),([(25,false)],89,#[(.I y.kind)],(.bool (R.usesB y.kind))),([(29,true),(25,false)],71,#[v,(.I y.b)],(.bool (R.has (R.upto b.params++dsts (b.ops.take (j))) y.b)))] [] hR hM hB mix trivial trivial (fun w' hb' hM'=>trivial) (fun w' hb' hM'=>⟨fun hg=>plain_any y _,fun hg=>SX.pureC (usesA_any _ _),fun hg=>SX.pureC (has_any _ (R.upto b.params++dsts (b.ops.take (j))) _ _ ((hkn.below hb').at_)),fun hg=>SX.pureC (usesB_any _ _),fun hg=>SX.pureC (has_any _ (R.upto b.params++dsts (b.ops.take (j))) _ _ ((hkn.below hb').at_)),trivial⟩) fun a86 w87 hR hb88 hB hM=>?_
   replace hkn:=hkn.below hb88
   replace hkn81:=SX.blk_below hkn81 hb88
   refine SX.cond_ ((((decide (y.kind<1)||decide (21<y.kind))||(!(R.plain y)))||((R.usesA y.kind)&&(!(R.has (R.upto b.params++dsts (b.ops.take (j))) y.a))))||((R.usesB y.kind)&&(!(R.has (R.upto b.params++dsts (b.ops.take (j))) y.b)))) hR (by kernel_rfl) (fun h89=>?_) (fun h89=>?_)
   ·skip
    refine SX.qs [.ld []] [2,3,4,5,6,7,23,24,25] [(.e 4 (.bool false))] hR hM hB mix fun a90 w91 hR hb92 hB hM=>?_
    replace hkn:=hkn.below hb92
    replace hkn81:=SX.blk_below hkn81 hb92
    refine wp_ret ?_
    try simp only [Exit.then,Exit.inBlock,Nat.reduceEqDiff,↓reduceIte]
    refine SX.ret_ 4 (.bool false) Try.results58 hR (by kernel_rfl) ?_
    clear hR hM mix hK1 hzn5 hb4 hkn5 hln5 hn5 hzn9 qn5n9 hb8 hkn9 hln9 hn9 hb12 hK13 hb16 hb23 hb26 hb29 hK30 hb33 hm36 hK37 hb40 hK61 hb64 hm67 hb70 hK71 hK73 hK74 hb77 hzn81 hgn81hkn hb80 hkn81 hln81 hn81 hnen81 hb84 hK85 hb88 hb92
    replace hB:=hBr.tr hB
    refine ⟨ret_bool ?_,hB⟩
    rw [ops_all]
    exact allAt_no hy (by unfold stepB R.head; rw [h89]; rfl)
   ·skip
    refine wp_skip ?_
    refine hK85 _ _ ?_
    refine SX.seq_cut (fun a' w'=>∃ u:Value,SX.RSt 173 [] [(.e 2 (.P n5)),(.e 3 (.P n9)),(.e 5 (.slice Al ((R.values b).length) ka)),(.e 6 u),(.e 7 (.I (b.params.toNat:Int))),(.e 9 (.P n81)),(.e 23 (.slice (some ⟨oby,ooy,none⟩) b.ops.length j1)),(.e 24 (.I (b.ops.length:Int))),(.e 25 (.I (j:Int)))] a'∧Below w25.heap.size w25 w'∧SX.Cells w' [(⟨n81,0,none⟩,(.I y.kind)),(⟨n81,1,none⟩,(.I y.dst)),(⟨n81,2,none⟩,(.I y.a)),(⟨n81,3,none⟩,(.I y.b)),(⟨n81,4,none⟩,(.I y.n)),(⟨n81,5,none⟩,(.I y.ctx)),(⟨n81,6,none⟩,(.I y.var)),(⟨n81,7,none⟩,(.I y.piece)),(⟨n81,8,none⟩,(.I y.sk)),(⟨n81,9,none⟩,(.I y.sv)),(⟨n81,10,none⟩,(.I y.sa)),(⟨oby,ooy+j*11,none⟩,(.I y.kind)),(⟨oby,ooy+j*11+1,none⟩,(.I y.dst)),(⟨oby,ooy+j*11+2,none⟩,(.I y.a)),(⟨oby,ooy+j*11+3,none⟩,(.I y.b)),(⟨oby,ooy+j*11+4,none⟩,(.I y.n)),(⟨oby,ooy+j*11+5,none⟩,(.I y.ctx)),(⟨oby,ooy+j*11+6,none⟩,(.I y.var)),(⟨oby,ooy+j*11+7,none⟩,(.I y.piece)),(⟨oby,ooy+j*11+8,none⟩,(.I y.sk)),(⟨oby,ooy+j*11+9,none⟩,(.I y.sv)),(⟨oby,ooy+j*11+10,none⟩,(.I y.sa)),(⟨n9,0,none⟩,(.I b.params)),(⟨n9,1,none⟩,(.slice (some ⟨oby,ooy,none⟩) b.ops.length j1)),(⟨n9,2,none⟩,(.I b.term.kind)),(⟨n9,3,none⟩,(.I b.term.a)),(⟨n9,4,none⟩,(.I b.term.n)),(⟨n9,5,none⟩,(.slice B2 b.term.args.length j2)),(⟨n9,6,none⟩,(.I b.term.b0)),(⟨n9,7,none⟩,(.slice B3 b.term.args0.length j3)),(⟨n9,8,none⟩,(.I b.term.b1)),(⟨n9,9,none⟩,(.slice B4 b.term.args1.length j4)),(⟨n5,0,none⟩,(.I c.params)),(⟨n5,1,none⟩,(.slice A1 c.blocks.length k1)),(⟨n5,2,none⟩,(.slice A2 c.contexts.length k2)),(⟨n5,3,none⟩,(.slice A3 c.objects.length k3))]∧(IntsOwn w' Bk u (R.upto b.params++dsts (b.ops.take (j+1)))∧(!R.defines y.kind||!(decide (y.dst<b.params)||decide (9999<y.dst)||R.has (R.upto b.params++dsts (b.ops.take (j))) y.dst))=true)) ?_ ?_
    ·skip
     refine SX.qf [] [.ld [],.ld [0],.cl (.bool (R.defines y.kind))] [2,3,5,6,7,9,23,24,25,68] [(.e 68 (.bool (R.defines y.kind)))] [] [] [([],90,#[(.I y.kind)],(.bool (R.defines y.kind)))] [] hR hM hB mix trivial trivial (fun w' hb' hM'=>trivial) (fun w' hb' hM'=>⟨fun hg=>SX.pureC (defines_any _ _),trivial⟩) fun a93 w94 hR hb95 hB hM=>?_
     replace hkn:=hkn.below hb95
     replace hkn81:=SX.blk_below hkn81 hb95
     refine SX.cond_ (R.defines y.kind) hR (by kernel_rfl) (fun h96=>?_) (fun h96=>?_)
     ·skip
      refine wp_seq_k fun K97 hK97=>?_
      refine SX.qf [(5,decide (y.dst<b.params)),(10,(decide (y.dst<b.params)||decide (9999<y.dst)))] [.ld [],.ld [1],.ld [],.ld [22],.ld [],.ld [],.ld [],.ld [1],.ld [],.pk,.ld [],.ld [],.ld [],.ld [1],.cl (.bool (R.has (R.upto b.params++dsts (b.ops.take (j))) y.dst)),.pk] [2,3,5,6,7,9,23,24,25,84] [(.e 84 (.bool ((decide (y.dst<b.params)||decide (9999<y.dst))||(R.has (R.upto b.params++dsts (b.ops.take (j))) y.dst))))] [] [] [([(10,false)],71,#[v,(.I y.dst)],(.bool (R.has (R.upto b.params++dsts (b.ops.take (j))) y.dst)))] [] hR hM hB mix trivial trivial (fun w' hb' hM'=>trivial) (fun w' hb' hM'=>⟨fun hg=>SX.pureC (has_any _ (R.upto b.params++dsts (b.ops.take (j))) _ _ ((hkn.below hb').at_)),trivial⟩) fun a98 w99 hR hb100 hB hM=>?_
      replace hkn:=hkn.below hb100
      replace hkn81:=SX.blk_below hkn81 hb100
      refine SX.cond_ ((decide (y.dst<b.params)||decide (9999<y.dst))||(R.has (R.upto b.params++dsts (b.ops.take (j))) y.dst)) hR (by kernel_rfl) (fun h101=>?_) (fun h101=>?_)
      ·skip
       refine SX.qs [.ld []] [2,3,4,5,6,7,9,23,24,25] [(.e 4 (.bool false))] hR hM hB mix fun a102 w103 hR hb104 hB hM=>?_
       replace hkn:=hkn.below hb104
       replace hkn81:=SX.blk_below hkn81 hb104
       refine wp_ret ?_
       try simp only [Exit.then,Exit.inBlock,Nat.reduceEqDiff,↓reduceIte]
       refine SX.ret_ 4 (.bool false) Try.results58 hR (by kernel_rfl) ?_
       clear hR hM mix hK1 hzn5 hb4 hkn5 hln5 hn5 hzn9 qn5n9 hb8 hkn9 hln9 hn9 hb12 hK13 hb16 hb23 hb26 hb29 hK30 hb33 hm36 hK37 hb40 hK61 hb64 hm67 hb70 hK71 hK73 hK74 hb77 hzn81 hgn81hkn hb80 hkn81 hln81 hn81 hnen81 hb84 hK85 hb88 hb95 hK97 hb100 hb104
       replace hB:=hBr.tr hB
       refine ⟨ret_bool ?_,hB⟩
       rw [ops_all]
       exact allAt_no hy (by unfold stepB R.head; rw [h89,h96,h101]; rfl)
      ·skip
       refine wp_skip ?_
       refine hK97 _ _ ?_
       refine SX.region_l ?_
       refine SX.list_q0 (κ:=[]) 0 3 [.ld [],.ld [],.ld [1]] [2,3,5,6,7,9,23,24,25,85,87] [(.e 2 (.P n5)),(.e 3 (.P n9)),(.e 5 (.slice Al ((R.values b).length) ka)),(.e 6 v),(.e 7 (.I (b.params.toNat:Int))),(.e 9 (.P n81)),(.e 23 (.slice (some ⟨oby,ooy,none⟩) b.ops.length j1)),(.e 24 (.I (b.ops.length:Int))),(.e 25 (.I (j:Int))),(.e 85 v),(.e 87 (.I y.dst))] hR hM (by kernel_rfl) (by kernel_rfl) ?_
       clear hR hM; intro a105 w106 hR hb107 hM
       replace hB:=hB.tr hb107
       replace hkn:=hkn.below hb107
       replace hkn81:=SX.blk_below hkn81 hb107
       obtain ⟨n111,hn111⟩:∃ n,w106.heap.size=n:=⟨_,rfl⟩
       have hzn111:w25.heap.size≤n111:=by have:=hB.size; omega
       have hgn111hkn:=hkn.lt hn111
       have qn81n111:n81<n111:=by have:=(Array.getElem?_eq_some_iff.1 hkn81).1; omega
       refine SX.list_box 3 n111 [(.I y.dst)] 3 ((.e 88 (.slice (some ⟨n111,0,none⟩) 1 1))::[(.e 2 (.P n5)),(.e 3 (.P n9)),(.e 5 (.slice Al ((R.values b).length) ka)),(.e 6 v),(.e 7 (.I (b.params.toNat:Int))),(.e 9 (.P n81)),(.e 23 (.slice (some ⟨oby,ooy,none⟩) b.ops.length j1)),(.e 24 (.I (b.ops.length:Int))),(.e 25 (.I (j:Int))),(.e 85 v),(.e 87 (.I y.dst))]) [(⟨n111,0,none⟩,(.I y.dst)),(⟨n81,0,none⟩,(.I y.kind)),(⟨n81,1,none⟩,(.I y.dst)),(⟨n81,2,none⟩,(.I y.a)),(⟨n81,3,none⟩,(.I y.b)),(⟨n81,4,none⟩,(.I y.n)),(⟨n81,5,none⟩,(.I y.ctx)),(⟨n81,6,none⟩,(.I y.var)),(⟨n81,7,none⟩,(.I y.piece)),(⟨n81,8,none⟩,(.I y.sk)),(⟨n81,9,none⟩,(.I y.sv)),(⟨n81,10,none⟩,(.I y.sa)),(⟨oby,ooy+j*11,none⟩,(.I y.kind)),(⟨oby,ooy+j*11+1,none⟩,(.I y.dst)),(⟨oby,ooy+j*11+2,none⟩,(.I y.a)),(⟨oby,ooy+j*11+3,none⟩,(.I y.b)),(⟨oby,ooy+j*11+4,none⟩,(.I y.n)),(⟨oby,ooy+j*11+5,none⟩,(.I y.ctx)),(⟨oby,ooy+j*11+6,none⟩,(.I y.var)),(⟨oby,ooy+j*11+7,none⟩,(.I y.piece)),(⟨oby,ooy+j*11+8,none⟩,(.I y.sk)),(⟨oby,ooy+j*11+9,none⟩,(.I y.sv)),(⟨oby,ooy+j*11+10,none⟩,(.I y.sa)),(⟨n9,0,none⟩,(.I b.params)),(⟨n9,1,none⟩,(.slice (some ⟨oby,ooy,none⟩) b.ops.length j1)),(⟨n9,2,none⟩,(.I b.term.kind)),(⟨n9,3,none⟩,(.I b.term.a)),(⟨n9,4,none⟩,(.I b.term.n)),(⟨n9,5,none⟩,(.slice B2 b.term.args.length j2)),(⟨n9,6,none⟩,(.I b.term.b0)),(⟨n9,7,none⟩,(.slice B3 b.term.args0.length j3)),(⟨n9,8,none⟩,(.I b.term.b1)),(⟨n9,9,none⟩,(.slice B4 b.term.args1.length j4)),(⟨n5,0,none⟩,(.I c.params)),(⟨n5,1,none⟩,(.slice A1 c.blocks.length k1)),(⟨n5,2,none⟩,(.slice A2 c.contexts.length k2)),(⟨n5,3,none⟩,(.slice A3 c.objects.length k3))] hR hM hn111 (by kernel_rfl) (by kernel_rfl) ?_
       clear hR hM; intro a108 w109 hR hb110 hM hkn111 hln111
       replace hB:=hB.tr hb110
       replace hkn:=hkn.below hb110
       replace hkn81:=SX.blk_below hkn81 hb110
       replace hR:SX.RSt 173 [] [(.e 2 (.P n5)),(.e 3 (.P n9)),(.e 5 (.slice Al ((R.values b).length) ka)),(.e 6 v),(.e 7 (.I (b.params.toNat:Int))),(.e 9 (.P n81)),(.e 23 (.slice (some ⟨oby,ooy,none⟩) b.ops.length j1)),(.e 24 (.I (b.ops.length:Int))),(.e 25 (.I (j:Int))),(.e 85 v),(.e 88 (.slice (some ⟨n111,0,none⟩) 1 1))] a108:=hR.keep (ts:=[2,3,5,6,7,9,23,24,25,85,88]) (by kernel_rfl)
       obtain ⟨v112,w113,hrun,hown2,hgr115⟩:=appI_run hkn n111 y.dst (hM (⟨n111,0,none⟩,(.I y.dst)) (SX.mget_mem (i:=0) (by kernel_rfl))) (hiy.2.1) (by rw [List.length_append,upto_len]; have:=dsts_le b.ops j; omega)
       refine SX.list_run 4 (some 89) (appS 35 35 v (.slice (some ⟨n111,0,none⟩) 1 1)) v112 hR (by kernel_rfl) (by kernel_rfl) hrun ?_
       clear hR hrun; intro a114 hR
       have hgee116:=hkn.ge
       have hqn111e116:∀ g,v.ownBlock=some g→n111≠g:=fun g hg=>by have h1:=hgee116 g hg; have h2:=hgn111hkn g hg; omega
       have hqn81e116:∀ g,v.ownBlock=some g→n81≠g:=fun g hg=>by have h1:=hgee116 g hg; have h2:=hgn81hkn g hg; omega
       have hqobye116:∀ g,v.ownBlock=some g→oby≠g:=fun g hg=>by have h1:=hgee116 g hg; omega
       have hqn9e116:∀ g,v.ownBlock=some g→n9≠g:=fun g hg=>by have h1:=hgee116 g hg; omega
       have hqn5e116:∀ g,v.ownBlock=some g→n5≠g:=fun g hg=>by have h1:=hgee116 g hg; omega
       replace hB:=hB.grown hgr115 hB.size (fun g hg=>by have h1:=hgee116 g hg; omega)
       replace hM:=cells_grown hM hgr115 (gne_cons hqn111e116 (gne_cons hqn81e116 (gne_cons hqn81e116 (gne_cons hqn81e116 (gne_cons hqn81e116 (gne_cons hqn81e116 (gne_cons hqn81e116 (gne_cons hqn81e116 (gne_cons hqn81e116 (gne_cons hqn81e116 (gne_cons hqn81e116 (gne_cons hqn81e116 (gne_cons hqobye116 (gne_cons hqobye116 (gne_cons hqobye116 (gne_cons hqobye116 (gne_cons hqobye116 (gne_cons hqobye116 (gne_cons hqobye116 (gne_cons hqobye116 (gne_cons hqobye116 (gne_cons hqobye116 (gne_cons hqobye116 (gne_cons hqn9e116 (gne_cons hqn9e116 (gne_cons hqn9e116 (gne_cons hqn9e116 (gne_cons hqn9e116 (gne_cons hqn9e116 (gne_cons hqn9e116 (gne_cons hqn9e116 (gne_cons hqn9e116 (gne_cons hqn9e116 (gne_cons hqn5e116 (gne_cons hqn5e116 (gne_cons hqn5e116 (gne_cons hqn5e116 gne_nil)))))))))))))))))))))))))))))))))))))
       replace hkn81:=(hgr115.block _ (Array.getElem?_eq_some_iff.1 hkn81).1 (fun e=>(show ∀ g,v.ownBlock=some g→n81≠g from fun g hg=>by have h1:=hgee116 g hg; have h2:=hgn81hkn g hg; omega) _ e.symm rfl)).trans hkn81
       replace hkn111:=(hgr115.block _ (Array.getElem?_eq_some_iff.1 hkn111).1 (fun e=>(show ∀ g,v.ownBlock=some g→n111≠g from fun g hg=>by have h1:=hgee116 g hg; have h2:=hgn111hkn g hg; omega) _ e.symm rfl)).trans hkn111
       clear hkn; have hkn:=hown2; clear hown2
       replace hR:SX.RSt 173 [] [(.e 2 (.P n5)),(.e 3 (.P n9)),(.e 5 (.slice Al ((R.values b).length) ka)),(.e 6 v),(.e 7 (.I (b.params.toNat:Int))),(.e 9 (.P n81)),(.e 23 (.slice (some ⟨oby,ooy,none⟩) b.ops.length j1)),(.e 24 (.I (b.ops.length:Int))),(.e 25 (.I (j:Int))),(.e 89 v112)] a114:=hR.keep (ts:=[2,3,5,6,7,9,23,24,25,89]) (by kernel_rfl)
       refine SX.list_q0 (κ:=[]) 5 1 [.ld []] [2,3,5,6,7,9,23,24,25] [(.e 2 (.P n5)),(.e 3 (.P n9)),(.e 5 (.slice Al ((R.values b).length) ka)),(.e 6 v112),(.e 7 (.I (b.params.toNat:Int))),(.e 9 (.P n81)),(.e 23 (.slice (some ⟨oby,ooy,none⟩) b.ops.length j1)),(.e 24 (.I (b.ops.length:Int))),(.e 25 (.I (j:Int)))] hR hM (by kernel_rfl) (by kernel_rfl) ?_
       clear hR hM; intro a117 w118 hR hb119 hM
       replace hB:=hB.tr hb119
       replace hkn:=hkn.below hb119
       replace hkn81:=SX.blk_below hkn81 hb119
       replace hkn111:=SX.blk_below hkn111 hb119
       refine SX.list_end 6 (by kernel_rfl) ?_
       exact ⟨v112,hR.keep (ts:=[2,3,5,6,7,9,23,24,25]) (by kernel_rfl),hB,SX.cells_sub hM [1,2,3,4,5,6,7,8,9,10,11,12,13,14,15,16,17,18,19,20,21,22,23,24,25,26,27,28,29,30,31,32,33,34,35,36] (by kernel_rfl),⟨by rw [dsts_yes hy h96,← List.append_assoc]; exact hkn,by rw [h96,h101]; rfl⟩⟩
     ·skip
      refine wp_skip ?_
      exact ⟨v,hR.keep (ts:=[2,3,5,6,7,9,23,24,25]) (by kernel_rfl),hB,SX.cells_sub hM [0,1,2,3,4,5,6,7,8,9,10,11,12,13,14,15,16,17,18,19,20,21,22,23,24,25,26,27,28,29,30,31,32,33,34,35] (by kernel_rfl),⟨by rw [dsts_no hy h96]; exact hkn,by rw [h96]; rfl⟩⟩
    ·skip
     clear hR hM hB
     rintro a120 w121 ⟨u,hR,hB,hM,hc12⟩
     obtain ⟨hkn,hdf⟩:=hc12
     refine SX.qs [.ld [],.ld [0]] [2,3,5,6,7,9,23,24,25,91] [(.e 91 (.I y.kind))] hR hM hB mix fun a122 w123 hR hb124 hB hM=>?_
     replace hkn:=hkn.below hb124
     refine wp_block ?_
     refine SX.seq_cut (fun a' w'=>∃ q:Bool,SX.RSt 173 [] [(.e 2 (.P n5)),(.e 3 (.P n9)),(.e 5 (.slice Al ((R.values b).length) ka)),(.e 6 u),(.e 7 (.I (b.params.toNat:Int))),(.e 9 (.P n81)),(.e 23 (.slice (some ⟨oby,ooy,none⟩) b.ops.length j1)),(.e 24 (.I (b.ops.length:Int))),(.e 25 (.I (j:Int))),(.e 91 (.I y.kind)),(.e 92 (.bool q))] a'∧Below w25.heap.size w25 w'∧SX.Cells w' [(⟨n81,0,none⟩,(.I y.kind)),(⟨n81,1,none⟩,(.I y.dst)),(⟨n81,2,none⟩,(.I y.a)),(⟨n81,3,none⟩,(.I y.b)),(⟨n81,4,none⟩,(.I y.n)),(⟨n81,5,none⟩,(.I y.ctx)),(⟨n81,6,none⟩,(.I y.var)),(⟨n81,7,none⟩,(.I y.piece)),(⟨n81,8,none⟩,(.I y.sk)),(⟨n81,9,none⟩,(.I y.sv)),(⟨n81,10,none⟩,(.I y.sa)),(⟨oby,ooy+j*11,none⟩,(.I y.kind)),(⟨oby,ooy+j*11+1,none⟩,(.I y.dst)),(⟨oby,ooy+j*11+2,none⟩,(.I y.a)),(⟨oby,ooy+j*11+3,none⟩,(.I y.b)),(⟨oby,ooy+j*11+4,none⟩,(.I y.n)),(⟨oby,ooy+j*11+5,none⟩,(.I y.ctx)),(⟨oby,ooy+j*11+6,none⟩,(.I y.var)),(⟨oby,ooy+j*11+7,none⟩,(.I y.piece)),(⟨oby,ooy+j*11+8,none⟩,(.I y.sk)),(⟨oby,ooy+j*11+9,none⟩,(.I y.sv)),(⟨oby,ooy+j*11+10,none⟩,(.I y.sa)),(⟨n9,0,none⟩,(.I b.params)),(⟨n9,1,none⟩,(.slice (some ⟨oby,ooy,none⟩) b.ops.length j1)),(⟨n9,2,none⟩,(.I b.term.kind)),(⟨n9,3,none⟩,(.I b.term.a)),(⟨n9,4,none⟩,(.I b.term.n)),(⟨n9,5,none⟩,(.slice B2 b.term.args.length j2)),(⟨n9,6,none⟩,(.I b.term.b0)),(⟨n9,7,none⟩,(.slice B3 b.term.args0.length j3)),(⟨n9,8,none⟩,(.I b.term.b1)),(⟨n9,9,none⟩,(.slice B4 b.term.args1.length j4)),(⟨n5,0,none⟩,(.I c.params)),(⟨n5,1,none⟩,(.slice A1 c.blocks.length k1)),(⟨n5,2,none⟩,(.slice A2 c.contexts.length k2)),(⟨n5,3,none⟩,(.slice A3 c.objects.length k3))]∧(q=(y.kind==15||y.kind==16||y.kind==17)∧IntsOwn w' Bk u (R.upto b.params++dsts (b.ops.take (j+1))))) ?_ ?_
     ·skip
      refine SX.qs [.ld [],.ld []] [2,3,5,6,7,9,23,24,25,91,92] [(.e 92 (.bool (y.kind==15)))] hR hM hB mix fun a125 w126 hR hb127 hB hM=>?_
      replace hkn:=hkn.below hb127
      refine SX.cond_ (y.kind==15) hR (by kernel_rfl) (fun h128=>?_) (fun h128=>?_)
      ·skip
       refine wp_skip ?_
       exact ⟨(y.kind==15),hR.keep (ts:=[2,3,5,6,7,9,23,24,25,91,92]) (by kernel_rfl),hB,SX.cells_sub hM [0,1,2,3,4,5,6,7,8,9,10,11,12,13,14,15,16,17,18,19,20,21,22,23,24,25,26,27,28,29,30,31,32,33,34,35] (by kernel_rfl),⟨by simp [h128],hkn⟩⟩
      ·skip
       refine SX.qs [.ld [],.ld []] [2,3,5,6,7,9,23,24,25,91,92] [(.e 92 (.bool (y.kind==16)))] hR hM hB mix fun a129 w130 hR hb131 hB hM=>?_
       replace hkn:=hkn.below hb131
       refine SX.cond_ (y.kind==16) hR (by kernel_rfl) (fun h132=>?_) (fun h132=>?_)
       ·skip
        refine wp_skip ?_
        exact ⟨(y.kind==16),hR.keep (ts:=[2,3,5,6,7,9,23,24,25,91,92]) (by kernel_rfl),hB,SX.cells_sub hM [0,1,2,3,4,5,6,7,8,9,10,11,12,13,14,15,16,17,18,19,20,21,22,23,24,25,26,27,28,29,30,31,32,33,34,35] (by kernel_rfl),⟨by simp [h128,h132],hkn⟩⟩
       ·skip
        refine SX.qs0 [.ld [],.ld []] [2,3,5,6,7,9,23,24,25,91,92] [(.e 92 (.bool (y.kind==17)))] hR hM hB mix fun a133 w134 hR hb135 hB hM=>?_
        replace hkn:=hkn.below hb135
        exact ⟨(y.kind==17),hR.keep (ts:=[2,3,5,6,7,9,23,24,25,91,92]) (by kernel_rfl),hB,SX.cells_sub hM [0,1,2,3,4,5,6,7,8,9,10,11,12,13,14,15,16,17,18,19,20,21,22,23,24,25,26,27,28,29,30,31,32,33,34,35] (by kernel_rfl),⟨by simp [h128,h132],hkn⟩⟩
     ·skip
      clear hR hM hB
      rintro a136 w137 ⟨q,hR,hB,hM,hc17⟩
      obtain ⟨hq,hkn⟩:=hc17
      refine SX.cond_ q hR (by kernel_rfl) (fun h138=>?_) (fun h138=>?_)
      ·skip
       refine SX.qf [(3,decide (y.n<0))] [.ld [],.ld [4],.ld [],.ld [],.ld [],.ld [4],.ld [],.ld [35],.ld [],.ld [],.pk] [2,3,5,6,7,23,24,25,106] [(.e 106 (.bool (decide (y.n<0)||decide ((c.objects.length:Int)≤y.n))))] [] [] [] [] hR hM hB mix trivial trivial (fun w' hb' hM'=>trivial) (fun w' hb' hM'=>trivial) fun a139 w140 hR hb141 hB hM=>?_
       replace hkn:=hkn.below hb141
       refine SX.cond_ (decide (y.n<0)||decide ((c.objects.length:Int)≤y.n)) hR (by kernel_rfl) (fun h142=>?_) (fun h142=>?_)
       ·skip
        refine SX.qs [.ld []] [2,3,4,5,6,7,23,24,25] [(.e 4 (.bool false))] hR hM hB mix fun a143 w144 hR hb145 hB hM=>?_
        replace hkn:=hkn.below hb145
        refine wp_ret ?_
        try simp only [Exit.then,Exit.inBlock,Nat.reduceEqDiff,↓reduceIte]
        refine SX.ret_ 4 (.bool false) Try.results58 hR (by kernel_rfl) ?_
        clear hR hM mix hK1 hzn5 hb4 hkn5 hln5 hn5 hzn9 qn5n9 hb8 hkn9 hln9 hn9 hb12 hK13 hb16 hb23 hb26 hb29 hK30 hb33 hm36 hK37 hb40 hK61 hb64 hm67 hb70 hK71 hK73 hK74 hb77 hzn81 hgn81hkn hb80 hkn81 hln81 hn81 hnen81 hb84 hK85 hb88 hb124 hb141 hb145
        replace hB:=hBr.tr hB
        refine ⟨ret_bool ?_,hB⟩
        rw [ops_all]
        exact allAt_no hy (by unfold stepB R.head; rw [h89,hdf,tail_obj (hq.symm.trans h138),h142]; rfl)
       ·skip
        refine wp_skip ?_
        refine hK73 _ _ ?_
        refine SX.qf0 [] [.nm (.I ((j+1:Nat):Int)),.ld []] [2,3,5,6,7,23,24,25] [(.e 25 (.I ((j+1:Nat):Int)))] [] [] [] [([],(.I (IntKind.i64.wrap ((j:Int)+1))),(.I ((j+1:Nat):Int)))] hR hM hB mix trivial ⟨fun hg=>SX.wrap_ok (by omega),trivial⟩ (fun w' hb' hM'=>trivial) (fun w' hb' hM'=>trivial) fun a146 w147 hR hb148 hB hM=>?_
        replace hkn:=hkn.below hb148
        exact ⟨b.ops.length-(j+1),by omega,j+1,u,rfl,by omega,hR.keep (ts:=[2,3,5,6,7,23,24,25]) (by kernel_rfl),hB,SX.cells_sub hM [22,23,24,25,26,27,28,29,30,31,32,33,34,35] (by kernel_rfl),⟨hkn,hup.step hy (by unfold stepB R.head; rw [h89,hdf]; rw [tail_obj (hq.symm.trans h138),h142]; rfl)⟩⟩
      ·skip
       refine SX.seq_cut (fun a' w'=>∃ q2:Bool,SX.RSt 173 [] [(.e 2 (.P n5)),(.e 3 (.P n9)),(.e 5 (.slice Al ((R.values b).length) ka)),(.e 6 u),(.e 7 (.I (b.params.toNat:Int))),(.e 9 (.P n81)),(.e 23 (.slice (some ⟨oby,ooy,none⟩) b.ops.length j1)),(.e 24 (.I (b.ops.length:Int))),(.e 25 (.I (j:Int))),(.e 91 (.I y.kind)),(.e 107 (.bool q2))] a'∧Below w25.heap.size w25 w'∧SX.Cells w' [(⟨n81,0,none⟩,(.I y.kind)),(⟨n81,1,none⟩,(.I y.dst)),(⟨n81,2,none⟩,(.I y.a)),(⟨n81,3,none⟩,(.I y.b)),(⟨n81,4,none⟩,(.I y.n)),(⟨n81,5,none⟩,(.I y.ctx)),(⟨n81,6,none⟩,(.I y.var)),(⟨n81,7,none⟩,(.I y.piece)),(⟨n81,8,none⟩,(.I y.sk)),(⟨n81,9,none⟩,(.I y.sv)),(⟨n81,10,none⟩,(.I y.sa)),(⟨oby,ooy+j*11,none⟩,(.I y.kind)),(⟨oby,ooy+j*11+1,none⟩,(.I y.dst)),(⟨oby,ooy+j*11+2,none⟩,(.I y.a)),(⟨oby,ooy+j*11+3,none⟩,(.I y.b)),(⟨oby,ooy+j*11+4,none⟩,(.I y.n)),(⟨oby,ooy+j*11+5,none⟩,(.I y.ctx)),(⟨oby,ooy+j*11+6,none⟩,(.I y.var)),(⟨oby,ooy+j*11+7,none⟩,(.I y.piece)),(⟨oby,ooy+j*11+8,none⟩,(.I y.sk)),(⟨oby,ooy+j*11+9,none⟩,(.I y.sv)),(⟨oby,ooy+j*11+10,none⟩,(.I y.sa)),(⟨n9,0,none⟩,(.I b.params)),(⟨n9,1,none⟩,(.slice (some ⟨oby,ooy,none⟩) b.ops.length j1)),(⟨n9,2,none⟩,(.I b.term.kind)),(⟨n9,3,none⟩,(.I b.term.a)),(⟨n9,4,none⟩,(.I b.term.n)),(⟨n9,5,none⟩,(.slice B2 b.term.args.length j2)),(⟨n9,6,none⟩,(.I b.term.b0)),(⟨n9,7,none⟩,(.slice B3 b.term.args0.length j3)),(⟨n9,8,none⟩,(.I b.term.b1)),(⟨n9,9,none⟩,(.slice B4 b.term.args1.length j4)),(⟨n5,0,none⟩,(.I c.params)),(⟨n5,1,none⟩,(.slice A1 c.blocks.length k1)),(⟨n5,2,none⟩,(.slice A2 c.contexts.length k2)),(⟨n5,3,none⟩,(.slice A3 c.objects.length k3))]∧(q2=(y.kind==19||y.kind==20)∧IntsOwn w' Bk u (R.upto b.params++dsts (b.ops.take (j+1))))) ?_ ?_
       ·skip
        refine SX.qs [.ld [],.ld []] [2,3,5,6,7,9,23,24,25,91,107] [(.e 107 (.bool (y.kind==19)))] hR hM hB mix fun a149 w150 hR hb151 hB hM=>?_
        replace hkn:=hkn.below hb151
        refine SX.cond_ (y.kind==19) hR (by kernel_rfl) (fun h152=>?_) (fun h152=>?_)
        ·skip
         refine wp_skip ?_
         exact ⟨(y.kind==19),hR.keep (ts:=[2,3,5,6,7,9,23,24,25,91,107]) (by kernel_rfl),hB,SX.cells_sub hM [0,1,2,3,4,5,6,7,8,9,10,11,12,13,14,15,16,17,18,19,20,21,22,23,24,25,26,27,28,29,30,31,32,33,34,35] (by kernel_rfl),⟨by simp [h152],hkn⟩⟩
        ·skip
         refine SX.qs0 [.ld [],.ld []] [2,3,5,6,7,9,23,24,25,91,107] [(.e 107 (.bool (y.kind==20)))] hR hM hB mix fun a153 w154 hR hb155 hB hM=>?_
         replace hkn:=hkn.below hb155
         exact ⟨(y.kind==20),hR.keep (ts:=[2,3,5,6,7,9,23,24,25,91,107]) (by kernel_rfl),hB,SX.cells_sub hM [0,1,2,3,4,5,6,7,8,9,10,11,12,13,14,15,16,17,18,19,20,21,22,23,24,25,26,27,28,29,30,31,32,33,34,35] (by kernel_rfl),⟨by simp [h152],hkn⟩⟩
       ·skip
        clear hR hM hB
        rintro a156 w157 ⟨q2,hR,hB,hM,hc22⟩
        obtain ⟨hq2,hkn⟩:=hc22
        refine SX.cond_ q2 hR (by kernel_rfl) (fun h158=>?_) (fun h158=>?_)
        ·skip
         refine SX.qf [(3,decide (y.n<0)),(8,(decide (y.n<0)||decide (9999<y.n))),(13,((decide (y.n<0)||decide (9999<y.n))||decide (y.ctx<0)))] [.ld [],.ld [4],.ld [],.ld [],.ld [],.ld [4],.ld [],.pk,.ld [],.ld [],.ld [5],.ld [],.pk,.ld [],.ld [],.ld [5],.ld [],.ld [34],.ld [],.ld [],.pk] [2,3,5,6,7,23,24,25,130] [(.e 130 (.bool (((decide (y.n<0)||decide (9999<y.n))||decide (y.ctx<0))||decide ((c.contexts.length:Int)≤y.ctx))))] [] [] [] [] hR hM hB mix trivial trivial (fun w' hb' hM'=>trivial) (fun w' hb' hM'=>trivial) fun a159 w160 hR hb161 hB hM=>?_
         replace hkn:=hkn.below hb161
         refine SX.cond_ (((decide (y.n<0)||decide (9999<y.n))||decide (y.ctx<0))||decide ((c.contexts.length:Int)≤y.ctx)) hR (by kernel_rfl) (fun h162=>?_) (fun h162=>?_)
         ·skip
          refine SX.qs [.ld []] [2,3,4,5,6,7,23,24,25] [(.e 4 (.bool false))] hR hM hB mix fun a163 w164 hR hb165 hB hM=>?_
          replace hkn:=hkn.below hb165
          refine wp_ret ?_
          try simp only [Exit.then,Exit.inBlock,Nat.reduceEqDiff,↓reduceIte]
          refine SX.ret_ 4 (.bool false) Try.results58 hR (by kernel_rfl) ?_
          clear hR hM mix hK1 hzn5 hb4 hkn5 hln5 hn5 hzn9 qn5n9 hb8 hkn9 hln9 hn9 hb12 hK13 hb16 hb23 hb26 hb29 hK30 hb33 hm36 hK37 hb40 hK61 hb64 hm67 hb70 hK71 hK73 hK74 hb77 hzn81 hgn81hkn hb80 hkn81 hln81 hn81 hnen81 hb84 hK85 hb88 hb124 hb161 hb165
          replace hB:=hBr.tr hB
          refine ⟨ret_bool ?_,hB⟩
          rw [ops_all]
          exact allAt_no hy (by unfold stepB R.head; rw [h89,hdf,tail_mark (hq.symm.trans h138) (hq2.symm.trans h158),h162]; rfl)
         ·skip
          refine wp_skip ?_
          refine hK73 _ _ ?_
          refine SX.qf0 [] [.nm (.I ((j+1:Nat):Int)),.ld []] [2,3,5,6,7,23,24,25] [(.e 25 (.I ((j+1:Nat):Int)))] [] [] [] [([],(.I (IntKind.i64.wrap ((j:Int)+1))),(.I ((j+1:Nat):Int)))] hR hM hB mix trivial ⟨fun hg=>SX.wrap_ok (by omega),trivial⟩ (fun w' hb' hM'=>trivial) (fun w' hb' hM'=>trivial) fun a166 w167 hR hb168 hB hM=>?_
          replace hkn:=hkn.below hb168
          exact ⟨b.ops.length-(j+1),by omega,j+1,u,rfl,by omega,hR.keep (ts:=[2,3,5,6,7,23,24,25]) (by kernel_rfl),hB,SX.cells_sub hM [22,23,24,25,26,27,28,29,30,31,32,33,34,35] (by kernel_rfl),⟨hkn,hup.step hy (by unfold stepB R.head; rw [h89,hdf]; rw [tail_mark (hq.symm.trans h138) (hq2.symm.trans h158),h162]; rfl)⟩⟩
        ·skip
         refine SX.qs [.ld [],.ld []] [2,3,5,6,7,9,23,24,25,131] [(.e 131 (.bool (y.kind==21)))] hR hM hB mix fun a169 w170 hR hb171 hB hM=>?_
         replace hkn:=hkn.below hb171
         refine SX.cond_ (y.kind==21) hR (by kernel_rfl) (fun h172=>?_) (fun h172=>?_)
         ·skip
          refine SX.qf [(3,decide (y.ctx<0)),(11,(decide (y.ctx<0)||decide ((c.contexts.length:Int)≤y.ctx))),(16,((decide (y.ctx<0)||decide ((c.contexts.length:Int)≤y.ctx))||decide (y.var<0))),(21,(((decide (y.ctx<0)||decide ((c.contexts.length:Int)≤y.ctx))||decide (y.var<0))||decide (24≤y.var))),(26,((((decide (y.ctx<0)||decide ((c.contexts.length:Int)≤y.ctx))||decide (y.var<0))||decide (24≤y.var))||decide (y.piece<0))),(31,(((((decide (y.ctx<0)||decide ((c.contexts.length:Int)≤y.ctx))||decide (y.var<0))||decide (24≤y.var))||decide (y.piece<0))||decide (4≤y.piece)))] [.ld [],.ld [5],.ld [],.ld [],.ld [],.ld [5],.ld [],.ld [34],.ld [],.ld [],.pk,.ld [],.ld [],.ld [6],.ld [],.pk,.ld [],.ld [],.ld [6],.ld [],.pk,.ld [],.ld [],.ld [7],.ld [],.pk,.ld [],.ld [],.ld [7],.ld [],.pk,.ld [],.ld [32,33,34,35],.ld [],.ld [8,9,10],.ld [],.cl (.bool (R.source c y (R.values b))),.ld [],.pk] [2,3,5,6,7,23,24,25,171] [(.e 171 (.bool ((((((decide (y.ctx<0)||decide ((c.contexts.length:Int)≤y.ctx))||decide (y.var<0))||decide (24≤y.var))||decide (y.piece<0))||decide (4≤y.piece))||(!(R.source c y (R.values b))))))] [] [] [([(31,false)],91,#[(.agg #[.I c.params,.slice A1 c.blocks.length k1,.slice A2 c.contexts.length k2,.slice A3 c.objects.length k3]),(.agg #[.I y.sk,.I y.sv,.I y.sa]),(.slice Al ((R.values b).length) ka)],(.bool (R.source c y (R.values b))))] [] hR hM hB mix trivial trivial (fun w' hb' hM'=>trivial) (fun w' hb' hM'=>⟨fun hg=>source_any c _ _ _ _ (h0.below (hB.tr hb')) y _ (R.values b) (hal.below (hB.tr hb')),trivial⟩) fun a173 w174 hR hb175 hB hM=>?_
          replace hkn:=hkn.below hb175
          refine SX.cond_ ((((((decide (y.ctx<0)||decide ((c.contexts.length:Int)≤y.ctx))||decide (y.var<0))||decide (24≤y.var))||decide (y.piece<0))||decide (4≤y.piece))||(!(R.source c y (R.values b)))) hR (by kernel_rfl) (fun h176=>?_) (fun h176=>?_)
          ·skip
           refine SX.qs [.ld []] [2,3,4,5,6,7,23,24,25] [(.e 4 (.bool false))] hR hM hB mix fun a177 w178 hR hb179 hB hM=>?_
           replace hkn:=hkn.below hb179
           refine wp_ret ?_
           try simp only [Exit.then,Exit.inBlock,Nat.reduceEqDiff,↓reduceIte]
           refine SX.ret_ 4 (.bool false) Try.results58 hR (by kernel_rfl) ?_
           clear hR hM mix hK1 hzn5 hb4 hkn5 hln5 hn5 hzn9 qn5n9 hb8 hkn9 hln9 hn9 hb12 hK13 hb16 hb23 hb26 hb29 hK30 hb33 hm36 hK37 hb40 hK61 hb64 hm67 hb70 hK71 hK73 hK74 hb77 hzn81 hgn81hkn hb80 hkn81 hln81 hn81 hnen81 hb84 hK85 hb88 hb124 hb171 hb175 hb179
           replace hB:=hBr.tr hB
           refine ⟨ret_bool ?_,hB⟩
           rw [ops_all]
           exact allAt_no hy (by unfold stepB R.head; rw [h89,hdf,tail_bind (hq.symm.trans h138) (hq2.symm.trans h158) h172,h176]; rfl)
          ·skip
           refine wp_skip ?_
           refine hK73 _ _ ?_
           refine SX.qf0 [] [.nm (.I ((j+1:Nat):Int)),.ld []] [2,3,5,6,7,23,24,25] [(.e 25 (.I ((j+1:Nat):Int)))] [] [] [] [([],(.I (IntKind.i64.wrap ((j:Int)+1))),(.I ((j+1:Nat):Int)))] hR hM hB mix trivial ⟨fun hg=>SX.wrap_ok (by omega),trivial⟩ (fun w' hb' hM'=>trivial) (fun w' hb' hM'=>trivial) fun a180 w181 hR hb182 hB hM=>?_
           replace hkn:=hkn.below hb182
           exact ⟨b.ops.length-(j+1),by omega,j+1,u,rfl,by omega,hR.keep (ts:=[2,3,5,6,7,23,24,25]) (by kernel_rfl),hB,SX.cells_sub hM [22,23,24,25,26,27,28,29,30,31,32,33,34,35] (by kernel_rfl),⟨hkn,hup.step hy (by unfold stepB R.head; rw [h89,hdf]; rw [tail_bind (hq.symm.trans h138) (hq2.symm.trans h158) h172,h176]; rfl)⟩⟩
         ·skip
          refine wp_skip ?_
          refine hK73 _ _ ?_
          refine SX.qf0 [] [.nm (.I ((j+1:Nat):Int)),.ld []] [2,3,5,6,7,23,24,25] [(.e 25 (.I ((j+1:Nat):Int)))] [] [] [] [([],(.I (IntKind.i64.wrap ((j:Int)+1))),(.I ((j+1:Nat):Int)))] hR hM hB mix trivial ⟨fun hg=>SX.wrap_ok (by omega),trivial⟩ (fun w' hb' hM'=>trivial) (fun w' hb' hM'=>trivial) fun a183 w184 hR hb185 hB hM=>?_
          replace hkn:=hkn.below hb185
          exact ⟨b.ops.length-(j+1),by omega,j+1,u,rfl,by omega,hR.keep (ts:=[2,3,5,6,7,23,24,25]) (by kernel_rfl),hB,SX.cells_sub hM [22,23,24,25,26,27,28,29,30,31,32,33,34,35] (by kernel_rfl),⟨hkn,hup.step hy (by unfold stepB R.head; rw [h89,hdf]; rw [tail_else (hq.symm.trans h138) (hq2.symm.trans h158) h172]; rfl)⟩⟩
  ·skip
   refine wp_exit ?_
   refine hK61 _ _ ?_
   refine SX.qs [.ld []] [2,3,4,5,6,7,23,24,25] [(.e 4 (.bool true))] hR hM hB mix fun a186 w187 hR hb188 hB hM=>?_
   replace hkn:=hkn.below hb188
   refine wp_ret ?_
   try simp only [Exit.then,Exit.inBlock,Nat.reduceEqDiff,↓reduceIte]
   refine SX.ret_ 4 (.bool true) Try.results58 hR (by kernel_rfl) ?_
   clear hR hM mix hK1 hzn5 hb4 hkn5 hln5 hn5 hzn9 qn5n9 hb8 hkn9 hln9 hn9 hb12 hK13 hb16 hb23 hb26 hb29 hK30 hb33 hm36 hK37 hb40 hK61 hb64 hm67 hb70 hK71 hb188
   replace hB:=hBr.tr hB
   refine ⟨ret_bool ?_,hB⟩
   rw [ops_all]
   exact hup.allAt (le_of_dec h72)
end Go.Proofs.Ytlkcidmmpeebeaa
