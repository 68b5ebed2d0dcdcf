/- Proved: source,rightBind,clean,rightOp -/
import Derived.Test.YtlkcidmmpeebeaaScC
set_option linter.unusedVariables false
set_option linter.unusedSimpArgs false
namespace Go.Proofs.Ytlkcidmmpeebeaa
open Go.RowKit
set_option maxRecDepth 100000
set_option maxHeartbeats 400000 in
theorem source_any (c:CodeD) (v1 v2 v3:Value) (w:World) (h:CodeAt w v1 v2 v3 c) (o:OpD) (u:Value) (all:List Int) (hal:IntsAt w u all):Calls Try.prog 91 #[(.agg #[.I c.params,v1,v2,v3]),.agg #[.I o.sk,.I o.sv,.I o.sa],u] w fun e w'=>e=.returned (.bool (R.source c o all))∧Below w.heap.size w w':=by
 have h0:=h
 obtain ⟨A1,k1,rfl,s1⟩:=h.2.1.shape
 obtain ⟨A2,k2,rfl,s2⟩:=h.2.2.1.shape
 obtain ⟨A3,k3,rfl,s3⟩:=h.2.2.2.shape
 unfold Shape at s1 s2 s3
 have hal0:=hal
 obtain ⟨Al,ka,rfl,sa⟩:=hal.shape
 have mix:=mixed
 have hB:Below w.heap.size w w:=Below.refl _ _
 have hM:SX.Cells w []:=SX.cells_nil
 refine SX.enter [(.agg #[.I c.params,.slice A1 c.blocks.length k1,.slice A2 c.contexts.length k2,.slice A3 c.objects.length k3]),(.agg #[.I o.sk,.I o.sv,.I o.sa]),(.slice Al all.length ka)] 42 Try.func91 rfl rfl (by kernel_rfl) ?_
 intro a hR
 refine wp_seq_k fun K1 hK1=>?_
 refine SX.region_l ?_
 obtain ⟨n5,hn5⟩:∃ n,w.heap.size=n:=⟨_,rfl⟩
 have hzn5:w.heap.size≤n5:=by have:=hB.size; omega
 refine SX.list_box 0 n5 [(.I c.params),(.slice A1 c.blocks.length k1),(.slice A2 c.contexts.length k2),(.slice A3 c.objects.length k3)] 26 ((.e 3 (.P n5))::[(.e 0 (.agg #[.I c.params,.slice A1 c.blocks.length k1,.slice A2 c.contexts.length k2,.slice A3 c.objects.length k3])),(.e 1 (.agg #[.I o.sk,.I o.sv,.I o.sa])),(.e 2 (.slice Al all.length ka))]) [(⟨n5,0,none⟩,(.I c.params)),(⟨n5,1,none⟩,(.slice A1 c.blocks.length k1)),(⟨n5,2,none⟩,(.slice A2 c.contexts.length k2)),(⟨n5,3,none⟩,(.slice A3 c.objects.length k3))] hR hM hn5 (by kernel_rfl) (by kernel_rfl) ?_
 clear hR hM; intro a2 w3 hR hb4 hM hkn5 hln5
 replace hB:=hB.tr hb4
 replace hR:SX.RSt 42 [] [(.e 1 (.agg #[.I o.sk,.I o.sv,.I o.sa])),(.e 2 (.slice Al all.length ka)),(.e 3 (.P n5))] a2:=hR.keep (ts:=[1,2,3]) (by kernel_rfl)
 obtain ⟨n9,hn9⟩:∃ n,w3.heap.size=n:=⟨_,rfl⟩
 have hzn9:w.heap.size≤n9:=by have:=hB.size; omega
 have qn5n9:n5<n9:=by have:=(Array.getElem?_eq_some_iff.1 hkn5).1; omega
 refine SX.list_box 1 n9 [(.I o.sk),(.I o.sv),(.I o.sa)] 72 ((.e 4 (.P n9))::[(.e 1 (.agg #[.I o.sk,.I o.sv,.I o.sa])),(.e 2 (.slice Al all.length ka)),(.e 3 (.P n5))]) [(⟨n9,0,none⟩,(.I o.sk)),(⟨n9,1,none⟩,(.I o.sv)),(⟨n9,2,none⟩,(.I o.sa)),(⟨n5,0,none⟩,(.I c.params)),(⟨n5,1,none⟩,(.slice A1 c.blocks.length k1)),(⟨n5,2,none⟩,(.slice A2 c.contexts.length k2)),(⟨n5,3,none⟩,(.slice A3 c.objects.length k3))] hR hM hn9 (by kernel_rfl) (by kernel_rfl) ?_
 clear hR hM; intro a6 w7 hR hb8 hM hkn9 hln9
 replace hB:=hB.tr hb8
 replace hkn5:=SX.blk_below hkn5 hb8
 replace hR:SX.RSt 42 [] [(.e 2 (.slice Al all.length ka)),(.e 3 (.P n5)),(.e 4 (.P n9))] a6:=hR.keep (ts:=[2,3,4]) (by kernel_rfl)
 refine SX.list_q0 (κ:=[]) 2 1 [.ld []] [2,3,4] [(.e 2 (.slice Al all.length ka)),(.e 3 (.P n5)),(.e 4 (.P n9))] hR hM (by kernel_rfl) (by kernel_rfl) ?_
 clear hR hM; intro a10 w11 hR hb12 hM
 replace hB:=hB.tr hb12
 replace hkn5:=SX.blk_below hkn5 hb12
 replace hkn9:=SX.blk_below hkn9 hb12
 refine SX.list_end 3 (by kernel_rfl) ?_
 refine hK1 _ _ ?_
 refine wp_seq_k fun K13 hK13=>?_
 refine wp_seq_k fun K14 hK14=>?_
 refine SX.region_q0 [.ld [],.ld [0]] [2,3,4,8] [(.e 2 (.slice Al all.length ka)),(.e 3 (.P n5)),(.e 4 (.P n9)),(.e 8 (.I o.sk))] hR hM mix (by kernel_rfl) (by kernel_rfl) (by kernel_rfl) (by kernel_rfl) ?_
 clear hR hM; intro a15 w16 hR hb17 hM
 replace hB:=hB.tr hb17
 replace hkn5:=SX.blk_below hkn5 hb17
 replace hkn9:=SX.blk_below hkn9 hb17
 refine hK14 _ _ ?_
 refine wp_block ?_
 refine wp_seq_k fun K18 hK18=>?_
 refine SX.region_q0 [.ld [],.ld []] [2,3,4,8,9] [(.e 2 (.slice Al all.length ka)),(.e 3 (.P n5)),(.e 4 (.P n9)),(.e 8 (.I o.sk)),(.e 9 (.bool (o.sk==0)))] hR hM mix (by kernel_rfl) (by kernel_rfl) (by kernel_rfl) (by kernel_rfl) ?_
 clear hR hM; intro a19 w20 hR hb21 hM
 replace hB:=hB.tr hb21
 replace hkn5:=SX.blk_below hkn5 hb21
 replace hkn9:=SX.blk_below hkn9 hb21
 refine hK18 _ _ ?_
 refine SX.cond_ (o.sk==0) hR (by kernel_rfl) (fun h22=>?_) (fun h22=>?_)
 ·skip
  refine wp_seq_k fun K23 hK23=>?_
  refine SX.region_q [(3,(o.sv==0))] [.ld [],.ld [1],.ld [],.ld [],.ld [],.ld [2],.ld [],.pk,.ld []] [6] [(.e 6 (.bool ((o.sv==0)&&(o.sa==0))))] [] [] [] [] hR hM mix (by kernel_rfl) (by kernel_rfl) (by kernel_rfl) (by kernel_rfl) trivial trivial (fun w' hb' hM'=>trivial) (fun w' hb' hM'=>trivial) ?_
  clear hR hM; intro a24 w25 hR hb26 hM
  replace hB:=hB.tr hb26
  replace hkn5:=SX.blk_below hkn5 hb26
  replace hkn9:=SX.blk_below hkn9 hb26
  refine hK23 _ _ ?_
  refine wp_ret ?_
  try simp only [Exit.then,Exit.inBlock,Nat.reduceEqDiff,↓reduceIte]
  refine SX.ret_ 6 (.bool ((o.sv==0)&&(o.sa==0))) Try.results91 hR (by kernel_rfl) ?_
  clear hR hM mix hK1 hzn5 hb4 hkn5 hln5 hn5 hzn9 qn5n9 hb8 hkn9 hln9 hn9 hb12 hK13 hK14 hb17 hK18 hb21 hK23 hb26
  refine ⟨ret_bool ?_,hB⟩
  unfold R.source
  simp only [h22,Bool.false_eq_true,↓reduceIte]
 ·skip
  refine wp_seq_k fun K27 hK27=>?_
  refine SX.region_q0 [.ld [],.ld []] [2,3,4,8,19] [(.e 2 (.slice Al all.length ka)),(.e 3 (.P n5)),(.e 4 (.P n9)),(.e 8 (.I o.sk)),(.e 19 (.bool (o.sk==1)))] hR hM mix (by kernel_rfl) (by kernel_rfl) (by kernel_rfl) (by kernel_rfl) ?_
  clear hR hM; intro a28 w29 hR hb30 hM
  replace hB:=hB.tr hb30
  replace hkn5:=SX.blk_below hkn5 hb30
  replace hkn9:=SX.blk_below hkn9 hb30
  refine hK27 _ _ ?_
  refine SX.cond_ (o.sk==1) hR (by kernel_rfl) (fun h31=>?_) (fun h31=>?_)
  ·skip
   refine wp_seq_k fun K32 hK32=>?_
   refine SX.region_q0 [.ld [],.ld [1],.ld [],.ld []] [6] [(.e 6 (.bool (o.sv==0)))] hR hM mix (by kernel_rfl) (by kernel_rfl) (by kernel_rfl) (by kernel_rfl) ?_
   clear hR hM; intro a33 w34 hR hb35 hM
   replace hB:=hB.tr hb35
   replace hkn5:=SX.blk_below hkn5 hb35
   replace hkn9:=SX.blk_below hkn9 hb35
   refine hK32 _ _ ?_
   refine wp_ret ?_
   try simp only [Exit.then,Exit.inBlock,Nat.reduceEqDiff,↓reduceIte]
   refine SX.ret_ 6 (.bool (o.sv==0)) Try.results91 hR (by kernel_rfl) ?_
   clear hR hM mix hK1 hzn5 hb4 hkn5 hln5 hn5 hzn9 qn5n9 hb8 hkn9 hln9 hn9 hb12 hK13 hK14 hb17 hK18 hb21 hK27 hb30 hK32 hb35
   refine ⟨ret_bool ?_,hB⟩
   unfold R.source
   simp only [h22,h31,Bool.false_eq_true,↓reduceIte]
  ·skip
   refine wp_seq_k fun K36 hK36=>?_
   refine SX.region_q0 [.ld [],.ld []] [2,3,4,8,24] [(.e 2 (.slice Al all.length ka)),(.e 3 (.P n5)),(.e 4 (.P n9)),(.e 8 (.I o.sk)),(.e 24 (.bool (o.sk==2)))] hR hM mix (by kernel_rfl) (by kernel_rfl) (by kernel_rfl) (by kernel_rfl) ?_
   clear hR hM; intro a37 w38 hR hb39 hM
   replace hB:=hB.tr hb39
   replace hkn5:=SX.blk_below hkn5 hb39
   replace hkn9:=SX.blk_below hkn9 hb39
   refine hK36 _ _ ?_
   refine SX.cond_ (o.sk==2) hR (by kernel_rfl) (fun h40=>?_) (fun h40=>?_)
   ·skip
    refine wp_seq_k fun K41 hK41=>?_
    refine SX.region_q [] [.ld [],.ld [],.ld [1],.cl (.bool (R.has all o.sv)),.ld []] [6] [(.e 6 (.bool (R.has all o.sv)))] [] [] [([],71,#[(.slice Al all.length ka),(.I o.sv)],(.bool (R.has all o.sv)))] [] hR hM mix (by kernel_rfl) (by kernel_rfl) (by kernel_rfl) (by kernel_rfl) trivial trivial (fun w' hb' hM'=>trivial) (fun w' hb' hM'=>⟨fun hg=>SX.pureC (has_any _ all _ _ (hal.below (hB.tr hb'))),trivial⟩) ?_
    clear hR hM; intro a42 w43 hR hb44 hM
    replace hB:=hB.tr hb44
    replace hkn5:=SX.blk_below hkn5 hb44
    replace hkn9:=SX.blk_below hkn9 hb44
    refine hK41 _ _ ?_
    refine wp_ret ?_
    try simp only [Exit.then,Exit.inBlock,Nat.reduceEqDiff,↓reduceIte]
    refine SX.ret_ 6 (.bool (R.has all o.sv)) Try.results91 hR (by kernel_rfl) ?_
    clear hR hM mix hK1 hzn5 hb4 hkn5 hln5 hn5 hzn9 qn5n9 hb8 hkn9 hln9 hn9 hb12 hK13 hK14 hb17 hK18 hb21 hK27 hb30 hK36 hb39 hK41 hb44
    refine ⟨ret_bool ?_,hB⟩
    unfold R.source
    simp only [h22,h31,h40,Bool.false_eq_true,↓reduceIte]
   ·skip
    refine wp_seq_k fun K45 hK45=>?_
    refine SX.region_q0 [.ld [],.ld []] [3,4,30] [(.e 3 (.P n5)),(.e 4 (.P n9)),(.e 30 (.bool (o.sk==3)))] hR hM mix (by kernel_rfl) (by kernel_rfl) (by kernel_rfl) (by kernel_rfl) ?_
    clear hR hM; intro a46 w47 hR hb48 hM
    replace hB:=hB.tr hb48
    replace hkn5:=SX.blk_below hkn5 hb48
    replace hkn9:=SX.blk_below hkn9 hb48
    refine hK45 _ _ ?_
    refine SX.cond_ (o.sk==3) hR (by kernel_rfl) (fun h49=>?_) (fun h49=>?_)
    ·skip
     refine wp_seq_k fun K50 hK50=>?_
     refine SX.region_q [(3,decide (0≤o.sv))] [.ld [],.ld [1],.ld [],.ld [],.ld [],.ld [1],.ld [],.ld [3],.ld [],.pk,.ld []] [6] [(.e 6 (.bool (decide (0≤o.sv)&&decide (o.sv<c.params))))] [] [] [] [] hR hM mix (by kernel_rfl) (by kernel_rfl) (by kernel_rfl) (by kernel_rfl) trivial trivial (fun w' hb' hM'=>trivial) (fun w' hb' hM'=>trivial) ?_
     clear hR hM; intro a51 w52 hR hb53 hM
     replace hB:=hB.tr hb53
     replace hkn5:=SX.blk_below hkn5 hb53
     replace hkn9:=SX.blk_below hkn9 hb53
     refine hK50 _ _ ?_
     refine wp_ret ?_
     try simp only [Exit.then,Exit.inBlock,Nat.reduceEqDiff,↓reduceIte]
     refine SX.ret_ 6 (.bool (decide (0≤o.sv)&&decide (o.sv<c.params))) Try.results91 hR (by kernel_rfl) ?_
     clear hR hM mix hK1 hzn5 hb4 hkn5 hln5 hn5 hzn9 qn5n9 hb8 hkn9 hln9 hn9 hb12 hK13 hK14 hb17 hK18 hb21 hK27 hb30 hK36 hb39 hK45 hb48 hK50 hb53
     refine ⟨ret_bool ?_,hB⟩
     unfold R.source
     simp only [h22,h31,h40,h49,Bool.false_eq_true,↓reduceIte]
    ·skip
     refine wp_skip ?_
     refine hK13 _ _ ?_
     refine wp_seq_k fun K54 hK54=>?_
     refine SX.region_q0 [.ld []] [6] [(.e 6 (.bool false))] hR hM mix (by kernel_rfl) (by kernel_rfl) (by kernel_rfl) (by kernel_rfl) ?_
     clear hR hM; intro a55 w56 hR hb57 hM
     replace hB:=hB.tr hb57
     replace hkn5:=SX.blk_below hkn5 hb57
     replace hkn9:=SX.blk_below hkn9 hb57
     refine hK54 _ _ ?_
     refine wp_ret ?_
     try simp only [Exit.then,Exit.inBlock,Nat.reduceEqDiff,↓reduceIte]
     refine SX.ret_ 6 (.bool false) Try.results91 hR (by kernel_rfl) ?_
     clear hR hM mix hK1 hzn5 hb4 hkn5 hln5 hn5 hzn9 qn5n9 hb8 hkn9 hln9 hn9 hb12 hK13 hK14 hb17 hK18 hb21 hK27 hb30 hK36 hb39 hK45 hb48 hK54 hb57
     refine ⟨ret_bool ?_,hB⟩
     unfold R.source
     simp only [h22,h31,h40,h49,Bool.false_eq_true,↓reduceIte]

def rightBindD (c:CodeD) (ps:Int) (D:List (Int × Int)) (o:OpD) (n:Int):Bool :=
 if !P.within o.var 23||!P.within o.piece 3 then false
 else if o.sk==0 then o.sv==0&&o.sa==0 else if o.sk==1 then o.sv==0 else if o.sk==2 then hasD ps D o.sv n else if o.sk==3 then P.within o.sv (c.params-1) else false

set_option maxHeartbeats 400000 in
theorem rightBind_any (c:CodeD) (v1 v2 v3:Value) (w:World) (h:CodeAt w v1 v2 v3 c) (o:OpD) (n:Int) (hcp:0≤c.params) (ps:Int) (mb:Nat) (D:List (Int × Int)) (hp:0≤ps∧ps≤999) (hD:MapI w mb D):Calls Try.prog 129 #[(.agg #[.I c.params,v1,v2,v3]),(.agg #[.I ps,.map (some mb)]),(.agg #[.I o.kind,.I o.dst,.I o.a,.I o.b,.I o.n,.I o.ctx,.I o.var,.I o.piece,.I o.sk,.I o.sv,.I o.sa]),.I n] w fun e w'=>e=.returned (.bool (rightBindD c ps D o n))∧Below w.heap.size w w':=by
 have hc1:=h.1; unfold I64 at hc1
 have h0:=h
 obtain ⟨A1,k1,rfl,s1⟩:=h.2.1.shape
 obtain ⟨A2,k2,rfl,s2⟩:=h.2.2.1.shape
 obtain ⟨A3,k3,rfl,s3⟩:=h.2.2.2.shape
 unfold Shape at s1 s2 s3
 have mix:=mixed
 have hB:Below w.heap.size w w:=Below.refl _ _
 have hM:SX.Cells w []:=SX.cells_nil
 refine SX.enter [(.agg #[.I c.params,.slice A1 c.blocks.length k1,.slice A2 c.contexts.length k2,.slice A3 c.objects.length k3]),(.agg #[.I ps,.map (some mb)]),(.agg #[.I o.kind,.I o.dst,.I o.a,.I o.b,.I o.n,.I o.ctx,.I o.var,.I o.piece,.I o.sk,.I o.sv,.I o.sa]),(.I n)] 57 Try.func129 rfl rfl (by kernel_rfl) ?_
 intro a hR
 refine wp_seq_k fun K1 hK1=>?_
 refine SX.region_l ?_
 obtain ⟨n5,hn5⟩:∃ n,w.heap.size=n:=⟨_,rfl⟩
 have hzn5:w.heap.size≤n5:=by have:=hB.size; omega
 refine SX.list_box 0 n5 [(.I c.params),(.slice A1 c.blocks.length k1),(.slice A2 c.contexts.length k2),(.slice A3 c.objects.length k3)] 26 ((.e 4 (.P n5))::[(.e 0 (.agg #[.I c.params,.slice A1 c.blocks.length k1,.slice A2 c.contexts.length k2,.slice A3 c.objects.length k3])),(.e 1 (.agg #[.I ps,.map (some mb)])),(.e 2 (.agg #[.I o.kind,.I o.dst,.I o.a,.I o.b,.I o.n,.I o.ctx,.I o.var,.I o.piece,.I o.sk,.I o.sv,.I o.sa])),(.e 3 (.I n))]) [(⟨n5,0,none⟩,(.I c.params)),(⟨n5,1,none⟩,(.slice A1 c.blocks.length k1)),(⟨n5,2,none⟩,(.slice A2 c.contexts.length k2)),(⟨n5,3,none⟩,(.slice A3 c.objects.length k3))] hR hM hn5 (by kernel_rfl) (by kernel_rfl) ?_
 clear hR hM; intro a2 w3 hR hb4 hM hkn5 hln5
 replace hB:=hB.tr hb4
 replace hR:SX.RSt 57 [] [(.e 1 (.agg #[.I ps,.map (some mb)])),(.e 2 (.agg #[.I o.kind,.I o.dst,.I o.a,.I o.b,.I o.n,.I o.ctx,.I o.var,.I o.piece,.I o.sk,.I o.sv,.I o.sa])),(.e 3 (.I n)),(.e 4 (.P n5))] a2:=hR.keep (ts:=[1,2,3,4]) (by kernel_rfl)
 obtain ⟨n9,hn9⟩:∃ n,w3.heap.size=n:=⟨_,rfl⟩
 have hzn9:w.heap.size≤n9:=by have:=hB.size; omega
 have qn5n9:n5<n9:=by have:=(Array.getElem?_eq_some_iff.1 hkn5).1; omega
 refine SX.list_box 1 n9 [(.I ps),(.map (some mb))] 183 ((.e 5 (.P n9))::[(.e 1 (.agg #[.I ps,.map (some mb)])),(.e 2 (.agg #[.I o.kind,.I o.dst,.I o.a,.I o.b,.I o.n,.I o.ctx,.I o.var,.I o.piece,.I o.sk,.I o.sv,.I o.sa])),(.e 3 (.I n)),(.e 4 (.P n5))]) [(⟨n9,0,none⟩,(.I ps)),(⟨n9,1,none⟩,(.map (some mb))),(⟨n5,0,none⟩,(.I c.params)),(⟨n5,1,none⟩,(.slice A1 c.blocks.length k1)),(⟨n5,2,none⟩,(.slice A2 c.contexts.length k2)),(⟨n5,3,none⟩,(.slice A3 c.objects.length k3))] hR hM hn9 (by kernel_rfl) (by kernel_rfl) ?_
 clear hR hM; intro a6 w7 hR hb8 hM hkn9 hln9
 replace hB:=hB.tr hb8
 replace hkn5:=SX.blk_below hkn5 hb8
 replace hR:SX.RSt 57 [] [(.e 2 (.agg #[.I o.kind,.I o.dst,.I o.a,.I o.b,.I o.n,.I o.ctx,.I o.var,.I o.piece,.I o.sk,.I o.sv,.I o.sa])),(.e 3 (.I n)),(.e 4 (.P n5)),(.e 5 (.P n9))] a6:=hR.keep (ts:=[2,3,4,5]) (by kernel_rfl)
 obtain ⟨n13,hn13⟩:∃ n,w7.heap.size=n:=⟨_,rfl⟩
 have hzn13:w.heap.size≤n13:=by have:=hB.size; omega
 have qn5n13:n5<n13:=by have:=(Array.getElem?_eq_some_iff.1 hkn5).1; omega
 have qn9n13:n9<n13:=by have:=(Array.getElem?_eq_some_iff.1 hkn9).1; omega
 refine SX.list_box 2 n13 [(.I o.kind),(.I o.dst),(.I o.a),(.I o.b),(.I o.n),(.I o.ctx),(.I o.var),(.I o.piece),(.I o.sk),(.I o.sv),(.I o.sa)] 74 ((.e 6 (.P n13))::[(.e 2 (.agg #[.I o.kind,.I o.dst,.I o.a,.I o.b,.I o.n,.I o.ctx,.I o.var,.I o.piece,.I o.sk,.I o.sv,.I o.sa])),(.e 3 (.I n)),(.e 4 (.P n5)),(.e 5 (.P n9))]) [(⟨n13,0,none⟩,(.I o.kind)),(⟨n13,1,none⟩,(.I o.dst)),(⟨n13,2,none⟩,(.I o.a)),(⟨n13,3,none⟩,(.I o.b)),(⟨n13,4,none⟩,(.I o.n)),(⟨n13,5,none⟩,(.I o.ctx)),(⟨n13,6,none⟩,(.I o.var)),(⟨n13,7,none⟩,(.I o.piece)),(⟨n13,8,none⟩,(.I o.sk)),(⟨n13,9,none⟩,(.I o.sv)),(⟨n13,10,none⟩,(.I o.sa)),(⟨n9,0,none⟩,(.I ps)),(⟨n9,1,none⟩,(.map (some mb))),(⟨n5,0,none⟩,(.I c.params)),(⟨n5,1,none⟩,(.slice A1 c.blocks.length k1)),(⟨n5,2,none⟩,(.slice A2 c.contexts.length k2)),(⟨n5,3,none⟩,(.slice A3 c.objects.length k3))] hR hM hn13 (by kernel_rfl) (by kernel_rfl) ?_
 clear hR hM; intro a10 w11 hR hb12 hM hkn13 hln13
 replace hB:=hB.tr hb12
 replace hkn5:=SX.blk_below hkn5 hb12
 replace hkn9:=SX.blk_below hkn9 hb12
 replace hR:SX.RSt 57 [] [(.e 3 (.I n)),(.e 4 (.P n5)),(.e 5 (.P n9)),(.e 6 (.P n13))] a10:=hR.keep (ts:=[3,4,5,6]) (by kernel_rfl)
 refine SX.list_q0 (κ:=[]) 3 1 [.ld []] [3,4,5,6] [(.e 3 (.I n)),(.e 4 (.P n5)),(.e 5 (.P n9)),(.e 6 (.P n13))] hR hM (by kernel_rfl) (by kernel_rfl) ?_
 clear hR hM; intro a14 w15 hR hb16 hM
 replace hB:=hB.tr hb16
 replace hkn5:=SX.blk_below hkn5 hb16
 replace hkn9:=SX.blk_below hkn9 hb16
 replace hkn13:=SX.blk_below hkn13 hb16
 refine SX.list_end 4 (by kernel_rfl) ?_
 refine hK1 _ _ ?_
 refine wp_seq_k fun K17 hK17=>?_
 refine wp_seq_k fun K18 hK18=>?_
 refine SX.region_q [(4,(!(P.within o.var 23)))] [.ld [],.ld [6],.cl (.bool (P.within o.var 23)),.ld [],.ld [],.ld [],.ld [7],.cl (.bool (P.within o.piece 3)),.ld [],.pk] [3,4,5,6,18] [(.e 3 (.I n)),(.e 4 (.P n5)),(.e 5 (.P n9)),(.e 6 (.P n13)),(.e 18 (.bool ((!(P.within o.var 23))||(!(P.within o.piece 3)))))] [] [] [([],84,#[(.I o.var),(.I 23)],(.bool (P.within o.var 23))),([(4,false)],84,#[(.I o.piece),(.I 3)],(.bool (P.within o.piece 3)))] [] hR hM mix (by kernel_rfl) (by kernel_rfl) (by kernel_rfl) (by kernel_rfl) trivial trivial (fun w' hb' hM'=>trivial) (fun w' hb' hM'=>⟨fun hg=>SX.pureC (within_any _ _ _),fun hg=>SX.pureC (within_any _ _ _),trivial⟩) ?_
 clear hR hM; intro a19 w20 hR hb21 hM
 replace hB:=hB.tr hb21
 replace hkn5:=SX.blk_below hkn5 hb21
 replace hkn9:=SX.blk_below hkn9 hb21
 replace hkn13:=SX.blk_below hkn13 hb21
 refine hK18 _ _ ?_
 refine SX.cond_ ((!(P.within o.var 23))||(!(P.within o.piece 3))) hR (by kernel_rfl) (fun h22=>?_) (fun h22=>?_)
 ·skip
  refine wp_seq_k fun K23 hK23=>?_
  refine SX.region_q0 [.ld []] [8] [(.e 8 (.bool false))] hR hM mix (by kernel_rfl) (by kernel_rfl) (by kernel_rfl) (by kernel_rfl) ?_
  clear hR hM; intro a24 w25 hR hb26 hM
  replace hB:=hB.tr hb26
  replace hkn5:=SX.blk_below hkn5 hb26
  replace hkn9:=SX.blk_below hkn9 hb26
  replace hkn13:=SX.blk_below hkn13 hb26
  refine hK23 _ _ ?_
  refine wp_ret ?_
  try simp only [Exit.then,Exit.inBlock,Nat.reduceEqDiff,↓reduceIte]
  refine SX.ret_ 8 (.bool false) Try.results129 hR (by kernel_rfl) ?_
  clear hR hM mix hK1 hzn5 hb4 hkn5 hln5 hn5 hzn9 qn5n9 hb8 hkn9 hln9 hn9 hzn13 qn5n13 qn9n13 hb12 hkn13 hln13 hn13 hb16 hK17 hK18 hb21 hK23 hb26
  refine ⟨ret_bool ?_,hB⟩
  unfold rightBindD
  simp only [h22,Bool.false_eq_true,↓reduceIte]
 ·skip
  refine wp_skip ?_
  refine hK17 _ _ ?_
  refine wp_seq_k fun K27 hK27=>?_
  refine wp_seq_k fun K28 hK28=>?_
  refine SX.region_q0 [.ld [],.ld [],.ld [8]] [3,4,5,6,21] [(.e 3 (.I n)),(.e 4 (.P n5)),(.e 5 (.P n9)),(.e 6 (.P n13)),(.e 21 (.I o.sk))] hR hM mix (by kernel_rfl) (by kernel_rfl) (by kernel_rfl) (by kernel_rfl) ?_
  clear hR hM; intro a29 w30 hR hb31 hM
  replace hB:=hB.tr hb31
  replace hkn5:=SX.blk_below hkn5 hb31
  replace hkn9:=SX.blk_below hkn9 hb31
  replace hkn13:=SX.blk_below hkn13 hb31
  refine hK28 _ _ ?_
  refine wp_block ?_
  refine wp_seq_k fun K32 hK32=>?_
  refine SX.region_q0 [.ld [],.ld []] [3,4,5,6,21,22] [(.e 3 (.I n)),(.e 4 (.P n5)),(.e 5 (.P n9)),(.e 6 (.P n13)),(.e 21 (.I o.sk)),(.e 22 (.bool (o.sk==0)))] hR hM mix (by kernel_rfl) (by kernel_rfl) (by kernel_rfl) (by kernel_rfl) ?_
  clear hR hM; intro a33 w34 hR hb35 hM
  replace hB:=hB.tr hb35
  replace hkn5:=SX.blk_below hkn5 hb35
  replace hkn9:=SX.blk_below hkn9 hb35
  replace hkn13:=SX.blk_below hkn13 hb35
  refine hK32 _ _ ?_
  refine SX.cond_ (o.sk==0) hR (by kernel_rfl) (fun h36=>?_) (fun h36=>?_)
  ·skip
   refine wp_seq_k fun K37 hK37=>?_
   refine SX.region_q [(4,(o.sv==0))] [.ld [],.ld [],.ld [9],.ld [],.ld [],.ld [],.ld [],.ld [10],.ld [],.pk,.ld []] [8] [(.e 8 (.bool ((o.sv==0)&&(o.sa==0))))] [] [] [] [] hR hM mix (by kernel_rfl) (by kernel_rfl) (by kernel_rfl) (by kernel_rfl) trivial trivial (fun w' hb' hM'=>trivial) (fun w' hb' hM'=>trivial) ?_
   clear hR hM; intro a38 w39 hR hb40 hM
   replace hB:=hB.tr hb40
   replace hkn5:=SX.blk_below hkn5 hb40
   replace hkn9:=SX.blk_below hkn9 hb40
   replace hkn13:=SX.blk_below hkn13 hb40
   refine hK37 _ _ ?_
   refine wp_ret ?_
   try simp only [Exit.then,Exit.inBlock,Nat.reduceEqDiff,↓reduceIte]
   refine SX.ret_ 8 (.bool ((o.sv==0)&&(o.sa==0))) Try.results129 hR (by kernel_rfl) ?_
   clear hR hM mix hK1 hzn5 hb4 hkn5 hln5 hn5 hzn9 qn5n9 hb8 hkn9 hln9 hn9 hzn13 qn5n13 qn9n13 hb12 hkn13 hln13 hn13 hb16 hK17 hK18 hb21 hK27 hK28 hb31 hK32 hb35 hK37 hb40
   refine ⟨ret_bool ?_,hB⟩
   unfold rightBindD
   simp only [h22,h36,Bool.false_eq_true,↓reduceIte]
  ·skip
   refine wp_seq_k fun K41 hK41=>?_
   refine SX.region_q0 [.ld [],.ld []] [3,4,5,6,21,34] [(.e 3 (.I n)),(.e 4 (.P n5)),(.e 5 (.P n9)),(.e 6 (.P n13)),(.e 21 (.I o.sk)),(.e 34 (.bool (o.sk==1)))] hR hM mix (by kernel_rfl) (by kernel_rfl) (by kernel_rfl) (by kernel_rfl) ?_
   clear hR hM; intro a42 w43 hR hb44 hM
   replace hB:=hB.tr hb44
   replace hkn5:=SX.blk_below hkn5 hb44
   replace hkn9:=SX.blk_below hkn9 hb44
   replace hkn13:=SX.blk_below hkn13 hb44
   refine hK41 _ _ ?_
   refine SX.cond_ (o.sk==1) hR (by kernel_rfl) (fun h45=>?_) (fun h45=>?_)
   ·skip
    refine wp_seq_k fun K46 hK46=>?_
    refine SX.region_q0 [.ld [],.ld [],.ld [9],.ld [],.ld []] [8] [(.e 8 (.bool (o.sv==0)))] hR hM mix (by kernel_rfl) (by kernel_rfl) (by kernel_rfl) (by kernel_rfl) ?_
    clear hR hM; intro a47 w48 hR hb49 hM
    replace hB:=hB.tr hb49
    replace hkn5:=SX.blk_below hkn5 hb49
    replace hkn9:=SX.blk_below hkn9 hb49
    replace hkn13:=SX.blk_below hkn13 hb49
    refine hK46 _ _ ?_
    refine wp_ret ?_
    try simp only [Exit.then,Exit.inBlock,Nat.reduceEqDiff,↓reduceIte]
    refine SX.ret_ 8 (.bool (o.sv==0)) Try.results129 hR (by kernel_rfl) ?_
    clear hR hM mix hK1 hzn5 hb4 hkn5 hln5 hn5 hzn9 qn5n9 hb8 hkn9 hln9 hn9 hzn13 qn5n13 qn9n13 hb12 hkn13 hln13 hn13 hb16 hK17 hK18 hb21 hK27 hK28 hb31 hK32 hb35 hK41 hb44 hK46 hb49
    refine ⟨ret_bool ?_,hB⟩
    unfold rightBindD
    simp only [h22,h36,h45,Bool.false_eq_true,↓reduceIte]
   ·skip
    refine wp_seq_k fun K50 hK50=>?_
    refine SX.region_q0 [.ld [],.ld []] [3,4,5,6,21,40] [(.e 3 (.I n)),(.e 4 (.P n5)),(.e 5 (.P n9)),(.e 6 (.P n13)),(.e 21 (.I o.sk)),(.e 40 (.bool (o.sk==2)))] hR hM mix (by kernel_rfl) (by kernel_rfl) (by kernel_rfl) (by kernel_rfl) ?_
    clear hR hM; intro a51 w52 hR hb53 hM
    replace hB:=hB.tr hb53
    replace hkn5:=SX.blk_below hkn5 hb53
    replace hkn9:=SX.blk_below hkn9 hb53
    replace hkn13:=SX.blk_below hkn13 hb53
    refine hK50 _ _ ?_
    refine SX.cond_ (o.sk==2) hR (by kernel_rfl) (fun h54=>?_) (fun h54=>?_)
    ·skip
     refine wp_seq_k fun K55 hK55=>?_
     refine SX.region_q [] [.ld [11,12],.ld [],.ld [],.ld [9],.ld [],.cl (.bool (hasD ps D o.sv n)),.ld []] [8] [(.e 8 (.bool (hasD ps D o.sv n)))] [] [] [([],154,#[(.agg #[.I ps,.map (some mb)]),(.I o.sv),(.I n)],(.bool (hasD ps D o.sv n)))] [] hR hM mix (by kernel_rfl) (by kernel_rfl) (by kernel_rfl) (by kernel_rfl) trivial trivial (fun w' hb' hM'=>trivial) (fun w' hb' hM'=>⟨fun hg=>sc_has _ _ _ _ _ _ hp (hD.below (hB.tr hb')),trivial⟩) ?_
     clear hR hM; intro a56 w57 hR hb58 hM
     replace hB:=hB.tr hb58
     replace hkn5:=SX.blk_below hkn5 hb58
     replace hkn9:=SX.blk_below hkn9 hb58
     replace hkn13:=SX.blk_below hkn13 hb58
     refine hK55 _ _ ?_
     refine wp_ret ?_
     try simp only [Exit.then,Exit.inBlock,Nat.reduceEqDiff,↓reduceIte]
     refine SX.ret_ 8 (.bool (hasD ps D o.sv n)) Try.results129 hR (by kernel_rfl) ?_
     clear hR hM mix hK1 hzn5 hb4 hkn5 hln5 hn5 hzn9 qn5n9 hb8 hkn9 hln9 hn9 hzn13 qn5n13 qn9n13 hb12 hkn13 hln13 hn13 hb16 hK17 hK18 hb21 hK27 hK28 hb31 hK32 hb35 hK41 hb44 hK50 hb53 hK55 hb58
     refine ⟨ret_bool ?_,hB⟩
     unfold rightBindD
     simp only [h22,h36,h45,h54,Bool.false_eq_true,↓reduceIte]
    ·skip
     refine wp_seq_k fun K59 hK59=>?_
     refine SX.region_q0 [.ld [],.ld []] [4,6,48] [(.e 4 (.P n5)),(.e 6 (.P n13)),(.e 48 (.bool (o.sk==3)))] hR hM mix (by kernel_rfl) (by kernel_rfl) (by kernel_rfl) (by kernel_rfl) ?_
     clear hR hM; intro a60 w61 hR hb62 hM
     replace hB:=hB.tr hb62
     replace hkn5:=SX.blk_below hkn5 hb62
     replace hkn9:=SX.blk_below hkn9 hb62
     replace hkn13:=SX.blk_below hkn13 hb62
     refine hK59 _ _ ?_
     refine SX.cond_ (o.sk==3) hR (by kernel_rfl) (fun h63=>?_) (fun h63=>?_)
     ·skip
      refine wp_seq_k fun K64 hK64=>?_
      refine SX.region_q [] [.ld [],.ld [],.ld [9],.ld [],.ld [13],.nm (.I (c.params-1)),.cl (.bool (P.within o.sv (c.params-1))),.ld []] [8] [(.e 8 (.bool (P.within o.sv (c.params-1))))] [] [] [([],84,#[(.I o.sv),(.I (c.params-1))],(.bool (P.within o.sv (c.params-1))))] [([],(.I (IntKind.i64.wrap (c.params-1))),(.I (c.params-1)))] hR hM mix (by kernel_rfl) (by kernel_rfl) (by kernel_rfl) (by kernel_rfl) trivial ⟨fun hg=>SX.wrap_ok (by omega),trivial⟩ (fun w' hb' hM'=>trivial) (fun w' hb' hM'=>⟨fun hg=>SX.pureC (within_any _ _ _),trivial⟩) ?_
      clear hR hM; intro a65 w66 hR hb67 hM
      replace hB:=hB.tr hb67
      replace hkn5:=SX.blk_below hkn5 hb67
      replace hkn9:=SX.blk_below hkn9 hb67
      replace hkn13:=SX.blk_below hkn13 hb67
      refine hK64 _ _ ?_
      refine wp_ret ?_
      try simp only [Exit.then,Exit.inBlock,Nat.reduceEqDiff,↓reduceIte]
      refine SX.ret_ 8 (.bool (P.within o.sv (c.params-1))) Try.results129 hR (by kernel_rfl) ?_
      clear hR hM mix hK1 hzn5 hb4 hkn5 hln5 hn5 hzn9 qn5n9 hb8 hkn9 hln9 hn9 hzn13 qn5n13 qn9n13 hb12 hkn13 hln13 hn13 hb16 hK17 hK18 hb21 hK27 hK28 hb31 hK32 hb35 hK41 hb44 hK50 hb53 hK59 hb62 hK64 hb67
      refine ⟨ret_bool ?_,hB⟩
      unfold rightBindD
      simp only [h22,h36,h45,h54,h63,Bool.false_eq_true,↓reduceIte]
     ·skip
      refine wp_skip ?_
      refine hK27 _ _ ?_
      refine wp_seq_k fun K68 hK68=>?_
      refine SX.region_q0 [.ld []] [8] [(.e 8 (.bool false))] hR hM mix (by kernel_rfl) (by kernel_rfl) (by kernel_rfl) (by kernel_rfl) ?_
      clear hR hM; intro a69 w70 hR hb71 hM
      replace hB:=hB.tr hb71
      replace hkn5:=SX.blk_below hkn5 hb71
      replace hkn9:=SX.blk_below hkn9 hb71
      replace hkn13:=SX.blk_below hkn13 hb71
      refine hK68 _ _ ?_
      refine wp_ret ?_
      try simp only [Exit.then,Exit.inBlock,Nat.reduceEqDiff,↓reduceIte]
      refine SX.ret_ 8 (.bool false) Try.results129 hR (by kernel_rfl) ?_
      clear hR hM mix hK1 hzn5 hb4 hkn5 hln5 hn5 hzn9 qn5n9 hb8 hkn9 hln9 hn9 hzn13 qn5n13 qn9n13 hb12 hkn13 hln13 hn13 hb16 hK17 hK18 hb21 hK27 hK28 hb31 hK32 hb35 hK41 hb44 hK50 hb53 hK59 hb62 hK68 hb71
      refine ⟨ret_bool ?_,hB⟩
      unfold rightBindD
      simp only [h22,h36,h45,h54,h63,Bool.false_eq_true,↓reduceIte]

set_option maxHeartbeats 400000 in
theorem clean1_any (u x f:Int) (nf:Nat) (w:World) (hf:w.cell? ⟨nf,0,none⟩=some (.I f)):Calls Try.prog 153 #[(.I u),(.I x),(.P nf)] w fun e w'=>e=.returned (.bool ((andI f u==0)&&x != 0))∧Below w.heap.size w w':=by
 have mix:=mixed
 have hB:Below w.heap.size w w:=Below.refl _ _
 have hM:SX.Cells w [(⟨nf,0,none⟩,.I f)]:=SX.cells_cons hf SX.cells_nil
 refine SX.enter [(.I u),(.I x),(.P nf)] 14 Try.func153 rfl rfl (by kernel_rfl) ?_
 intro a hR
 refine wp_seq_k fun K1 hK1=>?_
 refine SX.region_q0 [.ld []] [0,1,2] [(.e 0 (.I u)),(.e 1 (.I x)),(.e 2 (.P nf))] hR hM mix (by kernel_rfl) (by kernel_rfl) (by kernel_rfl) (by kernel_rfl) ?_
 clear hR hM; intro a2 w3 hR hb4 hM
 replace hB:=hB.tr hb4
 refine hK1 _ _ ?_
 refine wp_seq_k fun K5 hK5=>?_
 refine SX.region_q [(4,((andI f u)==0))] [.ld [0],.ld [],.ld [],.ld [],.ld [],.ld [],.ld [],.pk,.ld []] [5] [(.e 5 (.bool (((andI f u)==0)&&(x != 0))))] [] [] [] [] hR hM mix (by kernel_rfl) (by kernel_rfl) (by kernel_rfl) (by kernel_rfl) trivial trivial (fun w' hb' hM'=>trivial) (fun w' hb' hM'=>trivial) ?_
 clear hR hM; intro a6 w7 hR hb8 hM
 replace hB:=hB.tr hb8
 refine hK5 _ _ ?_
 refine wp_ret ?_
 try simp only [Exit.then,Exit.inBlock,Nat.reduceEqDiff,↓reduceIte]
 refine SX.ret_ 5 (.bool (((andI f u)==0)&&(x != 0))) Try.results153 hR (by kernel_rfl) ?_
 clear hR hM mix hK1 hb4 hK5 hb8
 exact ⟨rfl,hB⟩

set_option maxHeartbeats 400000 in
theorem clean_any (o:OpD) (w:World):Calls Try.prog 127 #[(.agg #[.I o.kind,.I o.dst,.I o.a,.I o.b,.I o.n,.I o.ctx,.I o.var,.I o.piece,.I o.sk,.I o.sv,.I o.sa])] w fun e w'=>e=.returned (.bool (P.clean o))∧Below w.heap.size w w':=by
 have mix:=mixed
 have hB:Below w.heap.size w w:=Below.refl _ _
 have hM:SX.Cells w []:=SX.cells_nil
 refine SX.enter [(.agg #[.I o.kind,.I o.dst,.I o.a,.I o.b,.I o.n,.I o.ctx,.I o.var,.I o.piece,.I o.sk,.I o.sv,.I o.sa])] 63 Try.func127 rfl rfl (by kernel_rfl) ?_
 intro a hR
 refine wp_seq_k fun K1 hK1=>?_
 refine SX.region_l ?_
 obtain ⟨n5,hn5⟩:∃ n,w.heap.size=n:=⟨_,rfl⟩
 have hzn5:w.heap.size≤n5:=by have:=hB.size; omega
 refine SX.list_box 0 n5 [(.I o.kind),(.I o.dst),(.I o.a),(.I o.b),(.I o.n),(.I o.ctx),(.I o.var),(.I o.piece),(.I o.sk),(.I o.sv),(.I o.sa)] 74 ((.e 1 (.P n5))::[(.e 0 (.agg #[.I o.kind,.I o.dst,.I o.a,.I o.b,.I o.n,.I o.ctx,.I o.var,.I o.piece,.I o.sk,.I o.sv,.I o.sa]))]) [(⟨n5,0,none⟩,(.I o.kind)),(⟨n5,1,none⟩,(.I o.dst)),(⟨n5,2,none⟩,(.I o.a)),(⟨n5,3,none⟩,(.I o.b)),(⟨n5,4,none⟩,(.I o.n)),(⟨n5,5,none⟩,(.I o.ctx)),(⟨n5,6,none⟩,(.I o.var)),(⟨n5,7,none⟩,(.I o.piece)),(⟨n5,8,none⟩,(.I o.sk)),(⟨n5,9,none⟩,(.I o.sv)),(⟨n5,10,none⟩,(.I o.sa))] hR hM hn5 (by kernel_rfl) (by kernel_rfl) ?_
 clear hR hM; intro a2 w3 hR hb4 hM hkn5 hln5
 replace hB:=hB.tr hb4
 replace hR:SX.RSt 63 [] [(.e 1 (.P n5))] a2:=hR.keep (ts:=[1]) (by kernel_rfl)
 refine SX.list_q0 (κ:=[]) 1 1 [.ld []] [1] [(.e 1 (.P n5))] hR hM (by kernel_rfl) (by kernel_rfl) ?_
 clear hR hM; intro a6 w7 hR hb8 hM
 replace hB:=hB.tr hb8
 replace hkn5:=SX.blk_below hkn5 hb8
 refine SX.list_end 2 (by kernel_rfl) ?_
 refine hK1 _ _ ?_
 refine wp_seq_k fun K9 hK9=>?_
 refine SX.region_l ?_
 refine SX.list_q (κ:=[]) 0 3 [.ld [],.ld [0],.cl (.I (fieldsN o.kind))] [1,7] [(.e 1 (.P n5)),(.e 7 (.I (fieldsN o.kind)))] [] [] [([],126,#[(.I o.kind)],(.I (fieldsN o.kind)))] [] hR hM (by kernel_rfl) (by kernel_rfl) trivial trivial (fun w' hb' hM'=>trivial) (fun w' hb' hM'=>⟨fun hg=>SX.pureC (fields_any _ _),trivial⟩) ?_
 clear hR hM; intro a10 w11 hR hb12 hM
 replace hB:=hB.tr hb12
 replace hkn5:=SX.blk_below hkn5 hb12
 obtain ⟨n16,hn16⟩:∃ n,w11.heap.size=n:=⟨_,rfl⟩
 have hzn16:w.heap.size≤n16:=by have:=hB.size; omega
 have qn5n16:n5<n16:=by have:=(Array.getElem?_eq_some_iff.1 hkn5).1; omega
 refine SX.list_alloc 3 n16 [(.I 0)] 3 ((.e 3 (.P n16))::[(.e 1 (.P n5)),(.e 7 (.I (fieldsN o.kind)))]) hR hM hn16 (by kernel_rfl) ?_
 clear hR hM; intro a13 w14 hR hb15 hM hkn16 hln16 hnen16
 replace hB:=hB.tr hb15
 replace hkn5:=SX.blk_below hkn5 hb15
 replace hR:SX.RSt 63 [] [(.e 1 (.P n5)),(.e 3 (.P n16)),(.e 7 (.I (fieldsN o.kind)))] a13:=hR.keep (ts:=[1,3,7]) (by kernel_rfl)
 refine SX.list_store 4 [(0,(.I (fieldsN o.kind)))] [(.I (fieldsN o.kind))] [(⟨n5,0,none⟩,(.I o.kind)),(⟨n5,1,none⟩,(.I o.dst)),(⟨n5,2,none⟩,(.I o.a)),(⟨n5,3,none⟩,(.I o.b)),(⟨n5,4,none⟩,(.I o.n)),(⟨n5,5,none⟩,(.I o.ctx)),(⟨n5,6,none⟩,(.I o.var)),(⟨n5,7,none⟩,(.I o.piece)),(⟨n5,8,none⟩,(.I o.sk)),(⟨n5,9,none⟩,(.I o.sv)),(⟨n5,10,none⟩,(.I o.sa))] [(⟨n16,0,none⟩,(.I (fieldsN o.kind))),(⟨n5,0,none⟩,(.I o.kind)),(⟨n5,1,none⟩,(.I o.dst)),(⟨n5,2,none⟩,(.I o.a)),(⟨n5,3,none⟩,(.I o.b)),(⟨n5,4,none⟩,(.I o.n)),(⟨n5,5,none⟩,(.I o.ctx)),(⟨n5,6,none⟩,(.I o.var)),(⟨n5,7,none⟩,(.I o.piece)),(⟨n5,8,none⟩,(.I o.sk)),(⟨n5,9,none⟩,(.I o.sv)),(⟨n5,10,none⟩,(.I o.sa))] hR (SX.cells_sub hM [0,1,2,3,4,5,6,7,8,9,10] (by kernel_rfl)) hnen16 hkn16 (by kernel_rfl) (by kernel_rfl) (by kernel_rfl) ?_
 clear hR hM hkn16; intro a17 w18 hR hb19 hM hkn16
 replace hB:=hB.trans (hb19.below (by omega))
 replace hkn5:=(hb19.block _ (by omega)).trans hkn5
 refine SX.list_end 5 (by kernel_rfl) ?_
 refine hK9 _ _ ?_
 refine wp_seq_k fun K20 hK20=>?_
 refine wp_seq_k fun K21 hK21=>?_
 refine SX.region_q0 [.ld [0],.ld []] [1,3,9] [(.e 1 (.P n5)),(.e 3 (.P n16)),(.e 9 (.bool ((fieldsN o.kind)==0)))] hR hM mix (by kernel_rfl) (by kernel_rfl) (by kernel_rfl) (by kernel_rfl) ?_
 clear hR hM; intro a22 w23 hR hb24 hM
 replace hB:=hB.tr hb24
 replace hkn5:=SX.blk_below hkn5 hb24
 replace hkn16:=SX.blk_below hkn16 hb24
 refine hK21 _ _ ?_
 refine SX.cond_ ((fieldsN o.kind)==0) hR (by kernel_rfl) (fun h25=>?_) (fun h25=>?_)
 ·skip
  refine wp_seq_k fun K26 hK26=>?_
  refine SX.region_q0 [.ld []] [2] [(.e 2 (.bool false))] hR hM mix (by kernel_rfl) (by kernel_rfl) (by kernel_rfl) (by kernel_rfl) ?_
  clear hR hM; intro a27 w28 hR hb29 hM
  replace hB:=hB.tr hb29
  replace hkn5:=SX.blk_below hkn5 hb29
  replace hkn16:=SX.blk_below hkn16 hb29
  refine hK26 _ _ ?_
  refine wp_ret ?_
  try simp only [Exit.then,Exit.inBlock,Nat.reduceEqDiff,↓reduceIte]
  refine SX.ret_ 2 (.bool false) Try.results127 hR (by kernel_rfl) ?_
  clear hR hM mix hK1 hzn5 hb4 hkn5 hln5 hn5 hb8 hK9 hb12 hzn16 qn5n16 hb15 hkn16 hln16 hn16 hnen16 hb19 hK20 hK21 hb24 hK26 hb29
  refine ⟨ret_bool ?_,hB⟩
  unfold P.clean
  simp only [f_zero,f_dst,f_a,f_b,f_n,f_ctx,f_bind] at *
  simp_all [Bool.and_assoc]
 ·skip
  refine wp_skip ?_
  refine hK20 _ _ ?_
  refine wp_seq_k fun K30 hK30=>?_
  refine SX.region_q0 [.ld [],.ld []] [1,3,4] [(.e 1 (.P n5)),(.e 3 (.P n16)),(.e 4 (.func (.func 153) #[] #[(.P n16)]))] hR hM mix (by kernel_rfl) (by kernel_rfl) (by kernel_rfl) (by kernel_rfl) ?_
  clear hR hM; intro a31 w32 hR hb33 hM
  replace hB:=hB.tr hb33
  replace hkn5:=SX.blk_below hkn5 hb33
  replace hkn16:=SX.blk_below hkn16 hb33
  refine hK30 _ _ ?_
  refine wp_seq_k fun K34 hK34=>?_
  refine SX.region_q [(4,(andI (fieldsN o.kind) 1==0&&o.dst != 0)),(10,((andI (fieldsN o.kind) 1==0&&o.dst != 0)||(andI (fieldsN o.kind) 2==0&&o.a != 0))),(16,(((andI (fieldsN o.kind) 1==0&&o.dst != 0)||(andI (fieldsN o.kind) 2==0&&o.a != 0))||(andI (fieldsN o.kind) 4==0&&o.b != 0))),(22,((((andI (fieldsN o.kind) 1==0&&o.dst != 0)||(andI (fieldsN o.kind) 2==0&&o.a != 0))||(andI (fieldsN o.kind) 4==0&&o.b != 0))||(andI (fieldsN o.kind) 8==0&&o.n != 0))),(28,(((((andI (fieldsN o.kind) 1==0&&o.dst != 0)||(andI (fieldsN o.kind) 2==0&&o.a != 0))||(andI (fieldsN o.kind) 4==0&&o.b != 0))||(andI (fieldsN o.kind) 8==0&&o.n != 0))||(andI (fieldsN o.kind) 16==0&&o.ctx != 0))),(34,((((((andI (fieldsN o.kind) 1==0&&o.dst != 0)||(andI (fieldsN o.kind) 2==0&&o.a != 0))||(andI (fieldsN o.kind) 4==0&&o.b != 0))||(andI (fieldsN o.kind) 8==0&&o.n != 0))||(andI (fieldsN o.kind) 16==0&&o.ctx != 0))||(andI (fieldsN o.kind) 32==0&&o.var != 0))),(40,(((((((andI (fieldsN o.kind) 1==0&&o.dst != 0)||(andI (fieldsN o.kind) 2==0&&o.a != 0))||(andI (fieldsN o.kind) 4==0&&o.b != 0))||(andI (fieldsN o.kind) 8==0&&o.n != 0))||(andI (fieldsN o.kind) 16==0&&o.ctx != 0))||(andI (fieldsN o.kind) 32==0&&o.var != 0))||(andI (fieldsN o.kind) 32==0&&o.piece != 0))),(44,((andI (fieldsN o.kind) 32)==0))] [.ld [],.ld [],.ld [2],.cl (.bool (andI (fieldsN o.kind) 1==0&&o.dst != 0)),.ld [],.ld [],.ld [],.ld [3],.cl (.bool (andI (fieldsN o.kind) 2==0&&o.a != 0)),.pk,.ld [],.ld [],.ld [],.ld [4],.cl (.bool (andI (fieldsN o.kind) 4==0&&o.b != 0)),.pk,.ld [],.ld [],.ld [],.ld [5],.cl (.bool (andI (fieldsN o.kind) 8==0&&o.n != 0)),.pk,.ld [],.ld [],.ld [],.ld [6],.cl (.bool (andI (fieldsN o.kind) 16==0&&o.ctx != 0)),.pk,.ld [],.ld [],.ld [],.ld [7],.cl (.bool (andI (fieldsN o.kind) 32==0&&o.var != 0)),.pk,.ld [],.ld [],.ld [],.ld [8],.cl (.bool (andI (fieldsN o.kind) 32==0&&o.piece != 0)),.pk,.ld [],.ld [0],.ld [],.ld [],.ld [],.ld [],.ld [9,10,11],.ld [],.hd (.bool (!(o.sk==0&&(o.sv==0&&o.sa==0)))),.pk,.pk,.ld [],.ld []] [2] [(.e 2 (.bool (!((((((((andI (fieldsN o.kind) 1==0&&o.dst != 0)||(andI (fieldsN o.kind) 2==0&&o.a != 0))||(andI (fieldsN o.kind) 4==0&&o.b != 0))||(andI (fieldsN o.kind) 8==0&&o.n != 0))||(andI (fieldsN o.kind) 16==0&&o.ctx != 0))||(andI (fieldsN o.kind) 32==0&&o.var != 0))||(andI (fieldsN o.kind) 32==0&&o.piece != 0))||(((andI (fieldsN o.kind) 32)==0)&&(!(o.sk==0&&(o.sv==0&&o.sa==0))))))))] [] [([(44,true),(40,false)],binS .neq 72 (.tmp 57) (.tmp 58) (.agg #[.I o.sk,.I o.sv,.I o.sa]) (.agg #[.I 0,.I 0,.I 0]),(.bool (!(o.sk==0&&(o.sv==0&&o.sa==0)))))] [([],153,#[(.I 1),(.I o.dst),(.P n16)],(.bool (andI (fieldsN o.kind) 1==0&&o.dst != 0))),([(4,false)],153,#[(.I 2),(.I o.a),(.P n16)],(.bool (andI (fieldsN o.kind) 2==0&&o.a != 0))),([(10,false)],153,#[(.I 4),(.I o.b),(.P n16)],(.bool (andI (fieldsN o.kind) 4==0&&o.b != 0))),([(16,false)],153,#[(.I 8),(.I o.n),(.P n16)],(.bool (andI (fieldsN o.kind) 8==0&&o.n != 0))),([(22,false)],153,#[(.I 16),(.I o.ctx),(.P n16)],(.bool (andI (fieldsN o.kind) 16==0&&o.ctx != 0))),([(28,false)],153,#[(.I 32),(.I o.var),(.P n16)],(.bool (andI (fieldsN o.kind) 32==0&&o.var != 0))),([(34,false)],153,#[(.I 32),(.I o.piece),(.P n16)],(.bool (andI (fieldsN o.kind) 32==0&&o.piece != 0)))] [] hR hM mix (by kernel_rfl) (by kernel_rfl) (by kernel_rfl) (by kernel_rfl) trivial trivial (fun w' hb' hM'=>⟨fun hg=>src_ne _ _ _ _ _ _,trivial⟩) (fun w' hb' hM'=>⟨fun hg=>clean1_any _ _ _ _ _ (hM' (⟨n16,0,none⟩,(.I (fieldsN o.kind))) (SX.mget_mem (i:=0) (by kernel_rfl))),fun hg=>clean1_any _ _ _ _ _ (hM' (⟨n16,0,none⟩,(.I (fieldsN o.kind))) (SX.mget_mem (i:=0) (by kernel_rfl))),fun hg=>clean1_any _ _ _ _ _ (hM' (⟨n16,0,none⟩,(.I (fieldsN o.kind))) (SX.mget_mem (i:=0) (by kernel_rfl))),fun hg=>clean1_any _ _ _ _ _ (hM' (⟨n16,0,none⟩,(.I (fieldsN o.kind))) (SX.mget_mem (i:=0) (by kernel_rfl))),fun hg=>clean1_any _ _ _ _ _ (hM' (⟨n16,0,none⟩,(.I (fieldsN o.kind))) (SX.mget_mem (i:=0) (by kernel_rfl))),fun hg=>clean1_any _ _ _ _ _ (hM' (⟨n16,0,none⟩,(.I (fieldsN o.kind))) (SX.mget_mem (i:=0) (by kernel_rfl))),fun hg=>clean1_any _ _ _ _ _ (hM' (⟨n16,0,none⟩,(.I (fieldsN o.kind))) (SX.mget_mem (i:=0) (by kernel_rfl))),trivial⟩) ?_
  clear hR hM; intro a35 w36 hR hb37 hM
  replace hB:=hB.tr hb37
  replace hkn5:=SX.blk_below hkn5 hb37
  replace hkn16:=SX.blk_below hkn16 hb37
  refine hK34 _ _ ?_
  refine wp_ret ?_
  try simp only [Exit.then,Exit.inBlock,Nat.reduceEqDiff,↓reduceIte]
  refine SX.ret_ 2 (.bool (!((((((((andI (fieldsN o.kind) 1==0&&o.dst != 0)||(andI (fieldsN o.kind) 2==0&&o.a != 0))||(andI (fieldsN o.kind) 4==0&&o.b != 0))||(andI (fieldsN o.kind) 8==0&&o.n != 0))||(andI (fieldsN o.kind) 16==0&&o.ctx != 0))||(andI (fieldsN o.kind) 32==0&&o.var != 0))||(andI (fieldsN o.kind) 32==0&&o.piece != 0))||(((andI (fieldsN o.kind) 32)==0)&&(!(o.sk==0&&(o.sv==0&&o.sa==0))))))) Try.results127 hR (by kernel_rfl) ?_
  clear hR hM mix hK1 hzn5 hb4 hkn5 hln5 hn5 hb8 hK9 hb12 hzn16 qn5n16 hb15 hkn16 hln16 hn16 hnen16 hb19 hK20 hK21 hb24 hK30 hb33 hK34 hb37
  refine ⟨ret_bool ?_,hB⟩
  unfold P.clean
  simp only [f_zero,f_dst,f_a,f_b,f_n,f_ctx,f_bind] at *
  simp_all [Bool.and_assoc]

def rightOpD (c:CodeD) (ps:Int) (D:List (Int × Int)) (o:OpD) (i:Int):Bool :=
 if ((andI (fieldsN o.kind) 2 != 0&&!hasD ps D o.a i)||(andI (fieldsN o.kind) 4 != 0&&!hasD ps D o.b i))||(andI (fieldsN o.kind) 16 != 0&&!P.within o.ctx ((c.contexts.length:Int)-1)) then false
 else if o.kind==15 then P.within o.n ((c.objects.length:Int)-1) else if o.kind==16 then P.within o.n ((c.objects.length:Int)-1) else if o.kind==17 then P.within o.n ((c.objects.length:Int)-1)
 else if o.kind==19 then P.within o.n 9999 else if o.kind==20 then P.within o.n 9999
 else true

set_option maxHeartbeats 400000 in
theorem rightOp_any (c:CodeD) (v1 v2 v3:Value) (w:World) (h:CodeAt w v1 v2 v3 c) (o:OpD) (i:Int) (ps:Int) (mb:Nat) (D:List (Int × Int)) (hp:0≤ps∧ps≤999) (hD:MapI w mb D):Calls Try.prog 128 #[(.agg #[.I c.params,v1,v2,v3]),(.agg #[.I ps,.map (some mb)]),(.agg #[.I o.kind,.I o.dst,.I o.a,.I o.b,.I o.n,.I o.ctx,.I o.var,.I o.piece,.I o.sk,.I o.sv,.I o.sa]),.I i] w fun e w'=>e=.returned (.bool (rightOpD c ps D o i))∧Below w.heap.size w w':=by
 have h0:=h
 obtain ⟨A1,k1,rfl,s1⟩:=h.2.1.shape
 obtain ⟨A2,k2,rfl,s2⟩:=h.2.2.1.shape
 obtain ⟨A3,k3,rfl,s3⟩:=h.2.2.2.shape
 unfold Shape at s1 s2 s3
 have mix:=mixed
 have hB:Below w.heap.size w w:=Below.refl _ _
 have hM:SX.Cells w []:=SX.cells_nil
 refine SX.enter [(.agg #[.I c.params,.slice A1 c.blocks.length k1,.slice A2 c.contexts.length k2,.slice A3 c.objects.length k3]),(.agg #[.I ps,.map (some mb)]),(.agg #[.I o.kind,.I o.dst,.I o.a,.I o.b,.I o.n,.I o.ctx,.I o.var,.I o.piece,.I o.sk,.I o.sv,.I o.sa]),(.I i)] 71 Try.func128 rfl rfl (by kernel_rfl) ?_
 intro a hR
 refine wp_seq_k fun K1 hK1=>?_
 refine SX.region_l ?_
 obtain ⟨n5,hn5⟩:∃ n,w.heap.size=n:=⟨_,rfl⟩
 have hzn5:w.heap.size≤n5:=by have:=hB.size; omega
 refine SX.list_box 0 n5 [(.I c.params),(.slice A1 c.blocks.length k1),(.slice A2 c.contexts.length k2),(.slice A3 c.objects.length k3)] 26 ((.e 4 (.P n5))::[(.e 0 (.agg #[.I c.params,.slice A1 c.blocks.length k1,.slice A2 c.contexts.length k2,.slice A3 c.objects.length k3])),(.e 1 (.agg #[.I ps,.map (some mb)])),(.e 2 (.agg #[.I o.kind,.I o.dst,.I o.a,.I o.b,.I o.n,.I o.ctx,.I o.var,.I o.piece,.I o.sk,.I o.sv,.I o.sa])),(.e 3 (.I i))]) [(⟨n5,0,none⟩,(.I c.params)),(⟨n5,1,none⟩,(.slice A1 c.blocks.length k1)),(⟨n5,2,none⟩,(.slice A2 c.contexts.length k2)),(⟨n5,3,none⟩,(.slice A3 c.objects.length k3))] hR hM hn5 (by kernel_rfl) (by kernel_rfl) ?_
 clear hR hM; intro a2 w3 hR hb4 hM hkn5 hln5
 replace hB:=hB.tr hb4
 replace hR:SX.RSt 71 [] [(.e 1 (.agg #[.I ps,.map (some mb)])),(.e 2 (.agg #[.I o.kind,.I o.dst,.I o.a,.I o.b,.I o.n,.I o.ctx,.I o.var,.I o.piece,.I o.sk,.I o.sv,.I o.sa])),(.e 3 (.I i)),(.e 4 (.P n5))] a2:=hR.keep (ts:=[1,2,3,4]) (by kernel_rfl)
 obtain ⟨n9,hn9⟩:∃ n,w3.heap.size=n:=⟨_,rfl⟩
 have hzn9:w.heap.size≤n9:=by have:=hB.size; omega
 have qn5n9:n5<n9:=by have:=(Array.getElem?_eq_some_iff.1 hkn5).1; omega
 refine SX.list_box 1 n9 [(.I ps),(.map (some mb))] 183 ((.e 5 (.P n9))::[(.e 1 (.agg #[.I ps,.map (some mb)])),(.e 2 (.agg #[.I o.kind,.I o.dst,.I o.a,.I o.b,.I o.n,.I o.ctx,.I o.var,.I o.piece,.I o.sk,.I o.sv,.I o.sa])),(.e 3 (.I i)),(.e 4 (.P n5))]) [(⟨n9,0,none⟩,(.I ps)),(⟨n9,1,none⟩,(.map (some mb))),(⟨n5,0,none⟩,(.I c.params)),(⟨n5,1,none⟩,(.slice A1 c.blocks.length k1)),(⟨n5,2,none⟩,(.slice A2 c.contexts.length k2)),(⟨n5,3,none⟩,(.slice A3 c.objects.length k3))] hR hM hn9 (by kernel_rfl) (by kernel_rfl) ?_
 clear hR hM; intro a6 w7 hR hb8 hM hkn9 hln9
 replace hB:=hB.tr hb8
 replace hkn5:=SX.blk_below hkn5 hb8
 replace hR:SX.RSt 71 [] [(.e 2 (.agg #[.I o.kind,.I o.dst,.I o.a,.I o.b,.I o.n,.I o.ctx,.I o.var,.I o.piece,.I o.sk,.I o.sv,.I o.sa])),(.e 3 (.I i)),(.e 4 (.P n5)),(.e 5 (.P n9))] a6:=hR.keep (ts:=[2,3,4,5]) (by kernel_rfl)
 obtain ⟨n13,hn13⟩:∃ n,w7.heap.size=n:=⟨_,rfl⟩
 have hzn13:w.heap.size≤n13:=by have:=hB.size; omega
 have qn5n13:n5<n13:=by have:=(Array.getElem?_eq_some_iff.1 hkn5).1; omega
 have qn9n13:n9<n13:=by have:=(Array.getElem?_eq_some_iff.1 hkn9).1; omega
 refine SX.list_box 2 n13 [(.I o.kind),(.I o.dst),(.I o.a),(.I o.b),(.I o.n),(.I o.ctx),(.I o.var),(.I o.piece),(.I o.sk),(.I o.sv),(.I o.sa)] 74 ((.e 6 (.P n13))::[(.e 2 (.agg #[.I o.kind,.I o.dst,.I o.a,.I o.b,.I o.n,.I o.ctx,.I o.var,.I o.piece,.I o.sk,.I o.sv,.I o.sa])),(.e 3 (.I i)),(.e 4 (.P n5)),(.e 5 (.P n9))]) [(⟨n13,0,none⟩,(.I o.kind)),(⟨n13,1,none⟩,(.I o.dst)),(⟨n13,2,none⟩,(.I o.a)),(⟨n13,3,none⟩,(.I o.b)),(⟨n13,4,none⟩,(.I o.n)),(⟨n13,5,none⟩,(.I o.ctx)),(⟨n13,6,none⟩,(.I o.var)),(⟨n13,7,none⟩,(.I o.piece)),(⟨n13,8,none⟩,(.I o.sk)),(⟨n13,9,none⟩,(.I o.sv)),(⟨n13,10,none⟩,(.I o.sa)),(⟨n9,0,none⟩,(.I ps)),(⟨n9,1,none⟩,(.map (some mb))),(⟨n5,0,none⟩,(.I c.params)),(⟨n5,1,none⟩,(.slice A1 c.blocks.length k1)),(⟨n5,2,none⟩,(.slice A2 c.contexts.length k2)),(⟨n5,3,none⟩,(.slice A3 c.objects.length k3))] hR hM hn13 (by kernel_rfl) (by kernel_rfl) ?_
 clear hR hM; intro a10 w11 hR hb12 hM hkn13 hln13
 replace hB:=hB.tr hb12
 replace hkn5:=SX.blk_below hkn5 hb12
 replace hkn9:=SX.blk_below hkn9 hb12
 replace hR:SX.RSt 71 [] [(.e 3 (.I i)),(.e 4 (.P n5)),(.e 5 (.P n9)),(.e 6 (.P n13))] a10:=hR.keep (ts:=[3,4,5,6]) (by kernel_rfl)
 refine SX.list_q0 (κ:=[]) 3 1 [.ld []] [3,4,5,6] [(.e 3 (.I i)),(.e 4 (.P n5)),(.e 5 (.P n9)),(.e 6 (.P n13))] hR hM (by kernel_rfl) (by kernel_rfl) ?_
 clear hR hM; intro a14 w15 hR hb16 hM
 replace hB:=hB.tr hb16
 replace hkn5:=SX.blk_below hkn5 hb16
 replace hkn9:=SX.blk_below hkn9 hb16
 replace hkn13:=SX.blk_below hkn13 hb16
 refine SX.list_end 4 (by kernel_rfl) ?_
 refine hK1 _ _ ?_
 refine wp_seq_k fun K17 hK17=>?_
 refine SX.region_q [] [.ld [],.ld [0],.cl (.I (fieldsN o.kind)),.ld []] [3,4,5,6,9] [(.e 3 (.I i)),(.e 4 (.P n5)),(.e 5 (.P n9)),(.e 6 (.P n13)),(.e 9 (.I (fieldsN o.kind)))] [] [] [([],126,#[(.I o.kind)],(.I (fieldsN o.kind)))] [] hR hM mix (by kernel_rfl) (by kernel_rfl) (by kernel_rfl) (by kernel_rfl) trivial trivial (fun w' hb' hM'=>trivial) (fun w' hb' hM'=>⟨fun hg=>SX.pureC (fields_any _ _),trivial⟩) ?_
 clear hR hM; intro a18 w19 hR hb20 hM
 replace hB:=hB.tr hb20
 replace hkn5:=SX.blk_below hkn5 hb20
 replace hkn9:=SX.blk_below hkn9 hb20
 replace hkn13:=SX.blk_below hkn13 hb20
 refine hK17 _ _ ?_
 refine wp_seq_k fun K21 hK21=>?_
 refine wp_seq_k fun K22 hK22=>?_
 refine SX.region_q [(3,((andI (fieldsN o.kind) 2) != 0)),(11,(((andI (fieldsN o.kind) 2) != 0)&&(!(hasD ps D o.a i)))),(15,((andI (fieldsN o.kind) 4) != 0)),(24,((((andI (fieldsN o.kind) 2) != 0)&&(!(hasD ps D o.a i)))||(((andI (fieldsN o.kind) 4) != 0)&&(!(hasD ps D o.b i))))),(28,((andI (fieldsN o.kind) 16) != 0))] [.ld [],.ld [],.ld [],.ld [],.ld [11,12],.ld [],.ld [2],.ld [],.cl (.bool (hasD ps D o.a i)),.ld [],.pk,.ld [],.ld [],.ld [],.ld [],.ld [],.ld [11,12],.ld [],.ld [3],.ld [],.cl (.bool (hasD ps D o.b i)),.ld [],.pk,.pk,.ld [],.ld [],.ld [],.ld [],.ld [],.ld [],.ld [5],.ld [],.ld [15],.ld [],.nm (.I (((c.contexts.length:Nat):Int)-1)),.cl (.bool (P.within o.ctx (((c.contexts.length:Nat):Int)-1))),.ld [],.pk,.pk] [4,6,51] [(.e 4 (.P n5)),(.e 6 (.P n13)),(.e 51 (.bool (((((andI (fieldsN o.kind) 2) != 0)&&(!(hasD ps D o.a i)))||(((andI (fieldsN o.kind) 4) != 0)&&(!(hasD ps D o.b i))))||(((andI (fieldsN o.kind) 16) != 0)&&(!(P.within o.ctx (((c.contexts.length:Nat):Int)-1)))))))] [] [] [([(3,true)],154,#[(.agg #[.I ps,.map (some mb)]),(.I o.a),(.I i)],(.bool (hasD ps D o.a i))),([(15,true),(11,false)],154,#[(.agg #[.I ps,.map (some mb)]),(.I o.b),(.I i)],(.bool (hasD ps D o.b i))),([(28,true),(24,false)],84,#[(.I o.ctx),(.I (((c.contexts.length:Nat):Int)-1))],(.bool (P.within o.ctx (((c.contexts.length:Nat):Int)-1))))] [([(28,true),(24,false)],(.I (IntKind.i64.wrap (((c.contexts.length:Nat):Int)-1))),(.I (((c.contexts.length:Nat):Int)-1)))] hR hM mix (by kernel_rfl) (by kernel_rfl) (by kernel_rfl) (by kernel_rfl) trivial ⟨fun hg=>SX.wrap_ok (by omega),trivial⟩ (fun w' hb' hM'=>trivial) (fun w' hb' hM'=>⟨fun hg=>sc_has _ _ _ _ _ _ hp (hD.below (hB.tr hb')),fun hg=>sc_has _ _ _ _ _ _ hp (hD.below (hB.tr hb')),fun hg=>SX.pureC (within_any _ _ _),trivial⟩) ?_
 clear hR hM; intro a23 w24 hR hb25 hM
 replace hB:=hB.tr hb25
 replace hkn5:=SX.blk_below hkn5 hb25
 replace hkn9:=SX.blk_below hkn9 hb25
 replace hkn13:=SX.blk_below hkn13 hb25
 refine hK22 _ _ ?_
 refine SX.cond_ (((((andI (fieldsN o.kind) 2) != 0)&&(!(hasD ps D o.a i)))||(((andI (fieldsN o.kind) 4) != 0)&&(!(hasD ps D o.b i))))||(((andI (fieldsN o.kind) 16) != 0)&&(!(P.within o.ctx (((c.contexts.length:Nat):Int)-1))))) hR (by kernel_rfl) (fun h26=>?_) (fun h26=>?_)
 ·skip
  refine wp_seq_k fun K27 hK27=>?_
  refine SX.region_q0 [.ld []] [8] [(.e 8 (.bool false))] hR hM mix (by kernel_rfl) (by kernel_rfl) (by kernel_rfl) (by kernel_rfl) ?_
  clear hR hM; intro a28 w29 hR hb30 hM
  replace hB:=hB.tr hb30
  replace hkn5:=SX.blk_below hkn5 hb30
  replace hkn9:=SX.blk_below hkn9 hb30
  replace hkn13:=SX.blk_below hkn13 hb30
  refine hK27 _ _ ?_
  refine wp_ret ?_
  try simp only [Exit.then,Exit.inBlock,Nat.reduceEqDiff,↓reduceIte]
  refine SX.ret_ 8 (.bool false) Try.results128 hR (by kernel_rfl) ?_
  clear hR hM mix hK1 hzn5 hb4 hkn5 hln5 hn5 hzn9 qn5n9 hb8 hkn9 hln9 hn9 hzn13 qn5n13 qn9n13 hb12 hkn13 hln13 hn13 hb16 hK17 hb20 hK21 hK22 hb25 hK27 hb30
  refine ⟨ret_bool ?_,hB⟩
  unfold rightOpD
  simp only [h26,Bool.false_eq_true,↓reduceIte]
  try rfl
 ·skip
  refine wp_skip ?_
  refine hK21 _ _ ?_
  refine wp_seq_k fun K31 hK31=>?_
  refine wp_seq_k fun K32 hK32=>?_
  refine SX.region_q0 [.ld [],.ld [0]] [4,6,53] [(.e 4 (.P n5)),(.e 6 (.P n13)),(.e 53 (.I o.kind))] hR hM mix (by kernel_rfl) (by kernel_rfl) (by kernel_rfl) (by kernel_rfl) ?_
  clear hR hM; intro a33 w34 hR hb35 hM
  replace hB:=hB.tr hb35
  replace hkn5:=SX.blk_below hkn5 hb35
  replace hkn9:=SX.blk_below hkn9 hb35
  replace hkn13:=SX.blk_below hkn13 hb35
  refine hK32 _ _ ?_
  refine wp_block ?_
  refine wp_seq_k fun K36 hK36=>?_
  refine wp_seq_k fun K37 hK37=>?_
  refine SX.region_q0 [.ld [],.ld []] [4,6,53,54] [(.e 4 (.P n5)),(.e 6 (.P n13)),(.e 53 (.I o.kind)),(.e 54 (.bool (o.kind==15)))] hR hM mix (by kernel_rfl) (by kernel_rfl) (by kernel_rfl) (by kernel_rfl) ?_
  clear hR hM; intro a38 w39 hR hb40 hM
  replace hB:=hB.tr hb40
  replace hkn5:=SX.blk_below hkn5 hb40
  replace hkn9:=SX.blk_below hkn9 hb40
  replace hkn13:=SX.blk_below hkn13 hb40
  refine hK37 _ _ ?_
  refine SX.cond_ (o.kind==15) hR (by kernel_rfl) (fun h41=>?_) (fun h41=>?_)
  ·skip
   refine wp_skip ?_
   refine hK36 _ _ ?_
   refine SX.cond_ (o.kind==15) hR (by kernel_rfl) (fun h42=>?_) (fun h42=>nomatch (h41.symm.trans h42))
   refine wp_seq_k fun K43 hK43=>?_
   refine SX.region_q [] [.ld [],.ld [4],.ld [],.ld [16],.ld [],.nm (.I (((c.objects.length:Nat):Int)-1)),.cl (.bool (P.within o.n (((c.objects.length:Nat):Int)-1))),.ld []] [8] [(.e 8 (.bool (P.within o.n (((c.objects.length:Nat):Int)-1))))] [] [] [([],84,#[(.I o.n),(.I (((c.objects.length:Nat):Int)-1))],(.bool (P.within o.n (((c.objects.length:Nat):Int)-1))))] [([],(.I (IntKind.i64.wrap (((c.objects.length:Nat):Int)-1))),(.I (((c.objects.length:Nat):Int)-1)))] hR hM mix (by kernel_rfl) (by kernel_rfl) (by kernel_rfl) (by kernel_rfl) trivial ⟨fun hg=>SX.wrap_ok (by omega),trivial⟩ (fun w' hb' hM'=>trivial) (fun w' hb' hM'=>⟨fun hg=>SX.pureC (within_any _ _ _),trivial⟩) ?_
   clear hR hM; intro a44 w45 hR hb46 hM
   replace hB:=hB.tr hb46
   replace hkn5:=SX.blk_below hkn5 hb46
   replace hkn9:=SX.blk_below hkn9 hb46
   replace hkn13:=SX.blk_below hkn13 hb46
   refine hK43 _ _ ?_
   refine wp_ret ?_
   try simp only [Exit.then,Exit.inBlock,Nat.reduceEqDiff,↓reduceIte]
   refine SX.ret_ 8 (.bool (P.within o.n (((c.objects.length:Nat):Int)-1))) Try.results128 hR (by kernel_rfl) ?_
   clear hR hM mix hK1 hzn5 hb4 hkn5 hln5 hn5 hzn9 qn5n9 hb8 hkn9 hln9 hn9 hzn13 qn5n13 qn9n13 hb12 hkn13 hln13 hn13 hb16 hK17 hb20 hK21 hK22 hb25 hK31 hK32 hb35 hK36 hK37 hb40 hK43 hb46
   refine ⟨ret_bool ?_,hB⟩
   unfold rightOpD
   simp only [h26,h41,Bool.false_eq_true,↓reduceIte]
   try rfl
  ·skip
   refine wp_seq_k fun K47 hK47=>?_
   refine SX.region_q0 [.ld [],.ld []] [4,6,53,54] [(.e 4 (.P n5)),(.e 6 (.P n13)),(.e 53 (.I o.kind)),(.e 54 (.bool (o.kind==16)))] hR hM mix (by kernel_rfl) (by kernel_rfl) (by kernel_rfl) (by kernel_rfl) ?_
   clear hR hM; intro a48 w49 hR hb50 hM
   replace hB:=hB.tr hb50
   replace hkn5:=SX.blk_below hkn5 hb50
   replace hkn9:=SX.blk_below hkn9 hb50
   replace hkn13:=SX.blk_below hkn13 hb50
   refine hK47 _ _ ?_
   refine SX.cond_ (o.kind==16) hR (by kernel_rfl) (fun h51=>?_) (fun h51=>?_)
   ·skip
    refine wp_skip ?_
    refine hK36 _ _ ?_
    refine SX.cond_ (o.kind==16) hR (by kernel_rfl) (fun h52=>?_) (fun h52=>nomatch (h51.symm.trans h52))
    refine wp_seq_k fun K53 hK53=>?_
    refine SX.region_q [] [.ld [],.ld [4],.ld [],.ld [16],.ld [],.nm (.I (((c.objects.length:Nat):Int)-1)),.cl (.bool (P.within o.n (((c.objects.length:Nat):Int)-1))),.ld []] [8] [(.e 8 (.bool (P.within o.n (((c.objects.length:Nat):Int)-1))))] [] [] [([],84,#[(.I o.n),(.I (((c.objects.length:Nat):Int)-1))],(.bool (P.within o.n (((c.objects.length:Nat):Int)-1))))] [([],(.I (IntKind.i64.wrap (((c.objects.length:Nat):Int)-1))),(.I (((c.objects.length:Nat):Int)-1)))] hR hM mix (by kernel_rfl) (by kernel_rfl) (by kernel_rfl) (by kernel_rfl) trivial ⟨fun hg=>SX.wrap_ok (by omega),trivial⟩ (fun w' hb' hM'=>trivial) (fun w' hb' hM'=>⟨fun hg=>SX.pureC (within_any _ _ _),trivial⟩) ?_
    clear hR hM; intro a54 w55 hR hb56 hM
    replace hB:=hB.tr hb56
    replace hkn5:=SX.blk_below hkn5 hb56
    replace hkn9:=SX.blk_below hkn9 hb56
    replace hkn13:=SX.blk_below hkn13 hb56
    refine hK53 _ _ ?_
    refine wp_ret ?_
    try simp only [Exit.then,Exit.inBlock,Nat.reduceEqDiff,↓reduceIte]
    refine SX.ret_ 8 (.bool (P.within o.n (((c.objects.length:Nat):Int)-1))) Try.results128 hR (by kernel_rfl) ?_
    clear hR hM mix hK1 hzn5 hb4 hkn5 hln5 hn5 hzn9 qn5n9 hb8 hkn9 hln9 hn9 hzn13 qn5n13 qn9n13 hb12 hkn13 hln13 hn13 hb16 hK17 hb20 hK21 hK22 hb25 hK31 hK32 hb35 hK36 hK37 hb40 hK47 hb50 hK53 hb56
    refine ⟨ret_bool ?_,hB⟩
    unfold rightOpD
    simp only [h26,h41,h51,Bool.false_eq_true,↓reduceIte]
    try rfl
   ·skip
    refine SX.region_q0 [.ld [],.ld []] [4,6,53,54] [(.e 4 (.P n5)),(.e 6 (.P n13)),(.e 53 (.I o.kind)),(.e 54 (.bool (o.kind==17)))] hR hM mix (by kernel_rfl) (by kernel_rfl) (by kernel_rfl) (by kernel_rfl) ?_
    clear hR hM; intro a57 w58 hR hb59 hM
    replace hB:=hB.tr hb59
    replace hkn5:=SX.blk_below hkn5 hb59
    replace hkn9:=SX.blk_below hkn9 hb59
    replace hkn13:=SX.blk_below hkn13 hb59
    refine hK36 _ _ ?_
    refine SX.cond_ (o.kind==17) hR (by kernel_rfl) (fun h60=>?_) (fun h60=>?_)
    ·skip
     refine wp_seq_k fun K61 hK61=>?_
     refine SX.region_q [] [.ld [],.ld [4],.ld [],.ld [16],.ld [],.nm (.I (((c.objects.length:Nat):Int)-1)),.cl (.bool (P.within o.n (((c.objects.length:Nat):Int)-1))),.ld []] [8] [(.e 8 (.bool (P.within o.n (((c.objects.length:Nat):Int)-1))))] [] [] [([],84,#[(.I o.n),(.I (((c.objects.length:Nat):Int)-1))],(.bool (P.within o.n (((c.objects.length:Nat):Int)-1))))] [([],(.I (IntKind.i64.wrap (((c.objects.length:Nat):Int)-1))),(.I (((c.objects.length:Nat):Int)-1)))] hR hM mix (by kernel_rfl) (by kernel_rfl) (by kernel_rfl) (by kernel_rfl) trivial ⟨fun hg=>SX.wrap_ok (by omega),trivial⟩ (fun w' hb' hM'=>trivial) (fun w' hb' hM'=>⟨fun hg=>SX.pureC (within_any _ _ _),trivial⟩) ?_
     clear hR hM; intro a62 w63 hR hb64 hM
     replace hB:=hB.tr hb64
     replace hkn5:=SX.blk_below hkn5 hb64
     replace hkn9:=SX.blk_below hkn9 hb64
     replace hkn13:=SX.blk_below hkn13 hb64
     refine hK61 _ _ ?_
     refine wp_ret ?_
     try simp only [Exit.then,Exit.inBlock,Nat.reduceEqDiff,↓reduceIte]
     refine SX.ret_ 8 (.bool (P.within o.n (((c.objects.length:Nat):Int)-1))) Try.results128 hR (by kernel_rfl) ?_
     clear hR hM mix hK1 hzn5 hb4 hkn5 hln5 hn5 hzn9 qn5n9 hb8 hkn9 hln9 hn9 hzn13 qn5n13 qn9n13 hb12 hkn13 hln13 hn13 hb16 hK17 hb20 hK21 hK22 hb25 hK31 hK32 hb35 hK36 hK37 hb40 hK47 hb50 hb59 hK61 hb64
     refine ⟨ret_bool ?_,hB⟩
     unfold rightOpD
     simp only [h26,h41,h51,h60,Bool.false_eq_true,↓reduceIte]
     try rfl
    ·skip
     refine wp_seq_k fun K65 hK65=>?_
     refine wp_seq_k fun K66 hK66=>?_
     refine SX.region_q0 [.ld [],.ld []] [6,53,65] [(.e 6 (.P n13)),(.e 53 (.I o.kind)),(.e 65 (.bool (o.kind==19)))] hR hM mix (by kernel_rfl) (by kernel_rfl) (by kernel_rfl) (by kernel_rfl) ?_
     clear hR hM; intro a67 w68 hR hb69 hM
     replace hB:=hB.tr hb69
     replace hkn5:=SX.blk_below hkn5 hb69
     replace hkn9:=SX.blk_below hkn9 hb69
     replace hkn13:=SX.blk_below hkn13 hb69
     refine hK66 _ _ ?_
     refine SX.cond_ (o.kind==19) hR (by kernel_rfl) (fun h70=>?_) (fun h70=>?_)
     ·skip
      refine wp_skip ?_
      refine hK65 _ _ ?_
      refine SX.cond_ (o.kind==19) hR (by kernel_rfl) (fun h71=>?_) (fun h71=>nomatch (h70.symm.trans h71))
      refine wp_seq_k fun K72 hK72=>?_
      refine SX.region_q [] [.ld [],.ld [4],.cl (.bool (P.within o.n 9999)),.ld []] [8] [(.e 8 (.bool (P.within o.n 9999)))] [] [] [([],84,#[(.I o.n),(.I 9999)],(.bool (P.within o.n 9999)))] [] hR hM mix (by kernel_rfl) (by kernel_rfl) (by kernel_rfl) (by kernel_rfl) trivial trivial (fun w' hb' hM'=>trivial) (fun w' hb' hM'=>⟨fun hg=>SX.pureC (within_any _ _ _),trivial⟩) ?_
      clear hR hM; intro a73 w74 hR hb75 hM
      replace hB:=hB.tr hb75
      replace hkn5:=SX.blk_below hkn5 hb75
      replace hkn9:=SX.blk_below hkn9 hb75
      replace hkn13:=SX.blk_below hkn13 hb75
      refine hK72 _ _ ?_
      refine wp_ret ?_
      try simp only [Exit.then,Exit.inBlock,Nat.reduceEqDiff,↓reduceIte]
      refine SX.ret_ 8 (.bool (P.within o.n 9999)) Try.results128 hR (by kernel_rfl) ?_
      clear hR hM mix hK1 hzn5 hb4 hkn5 hln5 hn5 hzn9 qn5n9 hb8 hkn9 hln9 hn9 hzn13 qn5n13 qn9n13 hb12 hkn13 hln13 hn13 hb16 hK17 hb20 hK21 hK22 hb25 hK31 hK32 hb35 hK36 hK37 hb40 hK47 hb50 hb59 hK65 hK66 hb69 hK72 hb75
      refine ⟨ret_bool ?_,hB⟩
      unfold rightOpD
      simp only [h26,h41,h51,h60,h70,Bool.false_eq_true,↓reduceIte]
      try rfl
     ·skip
      refine SX.region_q0 [.ld [],.ld []] [6,65] [(.e 6 (.P n13)),(.e 65 (.bool (o.kind==20)))] hR hM mix (by kernel_rfl) (by kernel_rfl) (by kernel_rfl) (by kernel_rfl) ?_
      clear hR hM; intro a76 w77 hR hb78 hM
      replace hB:=hB.tr hb78
      replace hkn5:=SX.blk_below hkn5 hb78
      replace hkn9:=SX.blk_below hkn9 hb78
      replace hkn13:=SX.blk_below hkn13 hb78
      refine hK65 _ _ ?_
      refine SX.cond_ (o.kind==20) hR (by kernel_rfl) (fun h79=>?_) (fun h79=>?_)
      ·skip
       refine wp_seq_k fun K80 hK80=>?_
       refine SX.region_q [] [.ld [],.ld [4],.cl (.bool (P.within o.n 9999)),.ld []] [8] [(.e 8 (.bool (P.within o.n 9999)))] [] [] [([],84,#[(.I o.n),(.I 9999)],(.bool (P.within o.n 9999)))] [] hR hM mix (by kernel_rfl) (by kernel_rfl) (by kernel_rfl) (by kernel_rfl) trivial trivial (fun w' hb' hM'=>trivial) (fun w' hb' hM'=>⟨fun hg=>SX.pureC (within_any _ _ _),trivial⟩) ?_
       clear hR hM; intro a81 w82 hR hb83 hM
       replace hB:=hB.tr hb83
       replace hkn5:=SX.blk_below hkn5 hb83
       replace hkn9:=SX.blk_below hkn9 hb83
       replace hkn13:=SX.blk_below hkn13 hb83
       refine hK80 _ _ ?_
       refine wp_ret ?_
       try simp only [Exit.then,Exit.inBlock,Nat.reduceEqDiff,↓reduceIte]
       refine SX.ret_ 8 (.bool (P.within o.n 9999)) Try.results128 hR (by kernel_rfl) ?_
       clear hR hM mix hK1 hzn5 hb4 hkn5 hln5 hn5 hzn9 qn5n9 hb8 hkn9 hln9 hn9 hzn13 qn5n13 qn9n13 hb12 hkn13 hln13 hn13 hb16 hK17 hb20 hK21 hK22 hb25 hK31 hK32 hb35 hK36 hK37 hb40 hK47 hb50 hb59 hK65 hK66 hb69 hb78 hK80 hb83
       refine ⟨ret_bool ?_,hB⟩
       unfold rightOpD
       simp only [h26,h41,h51,h60,h70,h79,Bool.false_eq_true,↓reduceIte]
       try rfl
      ·skip
       refine wp_skip ?_
       refine hK31 _ _ ?_
       refine wp_seq_k fun K84 hK84=>?_
       refine SX.region_q0 [.ld []] [8] [(.e 8 (.bool true))] hR hM mix (by kernel_rfl) (by kernel_rfl) (by kernel_rfl) (by kernel_rfl) ?_
       clear hR hM; intro a85 w86 hR hb87 hM
       replace hB:=hB.tr hb87
       replace hkn5:=SX.blk_below hkn5 hb87
       replace hkn9:=SX.blk_below hkn9 hb87
       replace hkn13:=SX.blk_below hkn13 hb87
       refine hK84 _ _ ?_
       refine wp_ret ?_
       try simp only [Exit.then,Exit.inBlock,Nat.reduceEqDiff,↓reduceIte]
       refine SX.ret_ 8 (.bool true) Try.results128 hR (by kernel_rfl) ?_
       clear hR hM mix hK1 hzn5 hb4 hkn5 hln5 hn5 hzn9 qn5n9 hb8 hkn9 hln9 hn9 hzn13 qn5n13 qn9n13 hb12 hkn13 hln13 hn13 hb16 hK17 hb20 hK21 hK22 hb25 hK31 hK32 hb35 hK36 hK37 hb40 hK47 hb50 hb59 hK65 hK66 hb69 hb78 hK84 hb87
       refine ⟨ret_bool ?_,hB⟩
       unfold rightOpD
       simp only [h26,h41,h51,h60,h70,h79,Bool.false_eq_true,↓reduceIte]
       try rfl
end Go.Proofs.Ytlkcidmmpeebeaa
