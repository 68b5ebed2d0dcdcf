/- Proved: source,rightBind,clean,rightOp -/
import Derived.Test.YtlkcidmmpeebeaaScC
import Derived.Test.YtlkcidmmpeebeaaMaps
set_option linter.unusedVariables false
set_option linter.unusedSimpArgs false
namespace Go.Proofs.Ytlkcidmmpeebeaa
open Go.RowKit
set_option maxRecDepth 100000
set_option maxHeartbeats 400000 in
theorem source_any (c:CodeD) (v1 v2 v3:Value) (w:World) (h:CodeAt w v1 v2 v3 c) (o:OpD) (u:Value) (all:List Int) (hal:IntsAt w u all):Calls Try.prog 91 #[(.agg #[.I c.params,v1,v2,v3]),.agg #[.I o.sk,.I o.sv,.I o.sa],u] w fun e w'=>e=.returned (.bool (R.source c o all))∧Below w.heap.size w w':=by
 have h0:=h
 obtain ⟨A1,k1,rfl,s1⟩:=h.2.1.shape
 obtain ⟨A2,k2,rfl,s2⟩:=h.2.2.1.shape
 obtain ⟨A3,k3,rfl,s3⟩:=h.2.2.2.shape
 unfold Shape at s1 s2 s3
 have hal0:=hal
 obtain ⟨Al,ka,rfl,sa⟩:=hal.shape
 have mix:=mixed
 have hB:Below w.heap.size w w:=Below.refl _ _
 have hM:SX.Cells w []:=SX.cells_nil
 refine SX.enter [(.agg #[.I c.params,.slice A1 c.blocks.length k1,.slice A2 c.contexts.length k2,.slice A3 c.objects.length k3]),(.agg #[.I o.sk,.I o.sv,.I o.sa]),(.slice Al all.length ka)] 42 Try.func91 rfl rfl (by kernel_rfl) ?_
 intro a hR
 refine wp_seq_k fun K1 hK1=>?_
 refine SX.region_l ?_
 obtain ⟨n5,hn5⟩:∃ n,w.heap.size=n:=⟨_,rfl⟩
 have hzn5:w.heap.size≤n5:=by have:=hB.size; omega
 refine SX.list_box 0 n5 [(.I c.params),(.slice A1 c.blocks.length k1),(.slice A2 c.contexts.length k2),(.slice A3 c.objects.length k3)] 26 ((.e 3 (.P n5))::[(.e 0 (.agg #[.I c.params,.slice A1 c.blocks.length k1,.slice A2 c.contexts.length k2,.slice A3 c.objects.length k3])),(.e 1 (.agg #[.I o.sk,.I o.sv,.I o.sa])),(.e 2 (.slice Al all.length ka))]) [(⟨n5,0,none⟩,(.I c.params)),(⟨n5,1,none⟩,(.slice A1 c.blocks.length k1)),(⟨n5,2,none⟩,(.slice A2 c.contexts.length k2)),(⟨n5,3,none⟩,(.slice A3 c.objects.length k3))] hR hM hn5 (by kernel_rfl) (by kernel_rfl) ?_
 clear hR hM; intro a2 w3 hR hb4 hM hkn5 hln5
 replace hB:=hB.tr hb4
 replace hR:SX.RSt 42 [] [(.e 1 (.agg #[.I o.sk,.I o.sv,.I o.sa])),(.e 2 (.slice Al all.length ka)),(.e 3 (.P n5))] a2:=hR.keep (ts:=[1,2,3]) (by kernel_rfl)
 obtain ⟨n9,hn9⟩:∃ n,w3.heap.size=n:=⟨_,rfl⟩
 have hzn9:w.heap.size≤n9:=by have:=hB.size; omega
 have qn5n9:n5<n9:=by have:=(Array.getElem?_eq_some_iff.1 hkn5).1; omega
 refine SX.list_box 1 n9 [(.I o.sk),(.I o.sv),(.I o.sa)] 72 ((.e 4 (.P n9))::[(.e 1 (.agg #[.I o.sk,.I o.sv,.I o.sa])),(.e 2 (.slice Al all.length ka)),(.e 3 (.P n5))]) [(⟨n9,0,none⟩,(.I o.sk)),(⟨n9,1,none⟩,(.I o.sv)),(⟨n9,2,none⟩,(.I o.sa)),(⟨n5,0,none⟩,(.I c.params)),(⟨n5,1,none⟩,(.slice A1 c.blocks.length k1)),(⟨n5,2,none⟩,(.slice A2 c.contexts.length k2)),(⟨n5,3,none⟩,(.slice A3 c.objects.length k3))] hR hM hn9 (by kernel_rfl) (by kernel_rfl) ?_
 clear hR hM; intro a6 w7 hR hb8 hM hkn9 hln9
 replace hB:=hB.tr hb8
 replace hkn5:=SX.blk_below hkn5 hb8
 replace hR:SX.RSt 42 [] [(.e 2 (.slice Al all.length ka)),(.e 3 (.P n5)),(.e 4 (.P n9))] a6:=hR.keep (ts:=[2,3,4]) (by kernel_rfl)
 refine SX.list_q0 (κ:=[]) 2 1 [.ld []] [2,3,4] [(.e 2 (.slice Al all.length ka)),(.e 3 (.P n5)),(.e 4 (.P n9))] hR hM (by kernel_rfl) (by kernel_rfl) ?_
 clear hR hM; intro a10 w11 hR hb12 hM
 replace hB:=hB.tr hb12
 replace hkn5:=SX.blk_below hkn5 hb12
 replace hkn9:=SX.blk_below hkn9 hb12
 refine SX.list_end 3 (by kernel_rfl) ?_
 refine hK1 _ _ ?_
 refine wp_seq_k fun K13 hK13=>?_
 refine SX.qs [.ld [],.ld [0]] [2,3,4,8] [(.e 8 (.I o.sk))] hR hM hB mix fun a14 w15 hR hb16 hB hM=>?_
 replace hkn5:=SX.blk_below hkn5 hb16
 replace hkn9:=SX.blk_below hkn9 hb16
 refine wp_block ?_
 refine SX.qs [.ld [],.ld []] [2,3,4,8,9] [(.e 9 (.bool (o.sk==0)))] hR hM hB mix fun a17 w18 hR hb19 hB hM=>?_
 replace hkn5:=SX.blk_below hkn5 hb19
 replace hkn9:=SX.blk_below hkn9 hb19
 refine SX.cond_ (o.sk==0) hR (by kernel_rfl) (fun h20=>?_) (fun h20=>?_)
 ·skip
  refine SX.qf [(3,(o.sv==0))] [.ld [],.ld [1],.ld [],.ld [],.ld [],.ld [2],.ld [],.pk,.ld []] [6] [(.e 6 (.bool ((o.sv==0)&&(o.sa==0))))] [] [] [] [] hR hM hB mix trivial trivial (fun w' hb' hM'=>trivial) (fun w' hb' hM'=>trivial) fun a21 w22 hR hb23 hB hM=>?_
  replace hkn5:=SX.blk_below hkn5 hb23
  replace hkn9:=SX.blk_below hkn9 hb23
  refine wp_ret ?_
  try simp only [Exit.then,Exit.inBlock,Nat.reduceEqDiff,↓reduceIte]
  refine SX.ret_ 6 (.bool ((o.sv==0)&&(o.sa==0))) Try.results91 hR (by kernel_rfl) ?_
  clear hR hM mix hK1 hzn5 hb4 hkn5 hln5 hn5 hzn9 qn5n9 hb8 hkn9 hln9 hn9 hb12 hK13 hb16 hb19 hb23
  refine ⟨ret_bool ?_,hB⟩
  unfold R.source
  simp only [h20,Bool.false_eq_true,↓reduceIte]
 ·skip
  refine SX.qs [.ld [],.ld []] [2,3,4,8,19] [(.e 19 (.bool (o.sk==1)))] hR hM hB mix fun a24 w25 hR hb26 hB hM=>?_
  replace hkn5:=SX.blk_below hkn5 hb26
  replace hkn9:=SX.blk_below hkn9 hb26
  refine SX.cond_ (o.sk==1) hR (by kernel_rfl) (fun h27=>?_) (fun h27=>?_)
  ·skip
   refine SX.qs [.ld [],.ld [1],.ld [],.ld []] [6] [(.e 6 (.bool (o.sv==0)))] hR hM hB mix fun a28 w29 hR hb30 hB hM=>?_
   replace hkn5:=SX.blk_below hkn5 hb30
   replace hkn9:=SX.blk_below hkn9 hb30
   refine wp_ret ?_
   try simp only [Exit.then,Exit.inBlock,Nat.reduceEqDiff,↓reduceIte]
   refine SX.ret_ 6 (.bool (o.sv==0)) Try.results91 hR (by kernel_rfl) ?_
   clear hR hM mix hK1 hzn5 hb4 hkn5 hln5 hn5 hzn9 qn5n9 hb8 hkn9 hln9 hn9 hb12 hK13 hb16 hb19 hb26 hb30
   refine ⟨ret_bool ?_,hB⟩
   unfold R.source
   simp only [h20,h27,Bool.false_eq_true,↓reduceIte]
  ·skip
   refine SX.qs [.ld [],.ld []] [2,3,4,8,24] [(.e 24 (.bool (o.sk==2)))] hR hM hB mix fun a31 w32 hR hb33 hB hM=>?_
   replace hkn5:=SX.blk_below hkn5 hb33
   replace hkn9:=SX.blk_below hkn9 hb33
   refine SX.cond_ (o.sk==2) hR (by kernel_rfl) (fun h34=>?_) (fun h34=>?_)
   ·skip
    refine SX.qf [] [.ld [],.ld [],.ld [1],.cl (.bool (R.has all o.sv)),.ld []] [6] [(.e 6 (.bool (R.has all o.sv)))] [] [] [([],71,#[(.slice Al all.length ka),(.I o.sv)],(.bool (R.has all o.sv)))] [] hR hM hB mix trivial trivial (fun w' hb' hM'=>trivial) (fun w' hb' hM'=>⟨fun hg=>SX.pureC (has_any _ all _ _ (hal.below (hB.tr hb'))),trivial⟩) fun a35 w36 hR hb37 hB hM=>?_
    replace hkn5:=SX.blk_below hkn5 hb37
    replace hkn9:=SX.blk_below hkn9 hb37
    refine wp_ret ?_
    try simp only [Exit.then,Exit.inBlock,Nat.reduceEqDiff,↓reduceIte]
    refine SX.ret_ 6 (.bool (R.has all o.sv)) Try.results91 hR (by kernel_rfl) ?_
    clear hR hM mix hK1 hzn5 hb4 hkn5 hln5 hn5 hzn9 qn5n9 hb8 hkn9 hln9 hn9 hb12 hK13 hb16 hb19 hb26 hb33 hb37
    refine ⟨ret_bool ?_,hB⟩
    unfold R.source
    simp only [h20,h27,h34,Bool.false_eq_true,↓reduceIte]
   ·skip
    refine SX.qs [.ld [],.ld []] [3,4,30] [(.e 30 (.bool (o.sk==3)))] hR hM hB mix fun a38 w39 hR hb40 hB hM=>?_
    replace hkn5:=SX.blk_below hkn5 hb40
    replace hkn9:=SX.blk_below hkn9 hb40
    refine SX.cond_ (o.sk==3) hR (by kernel_rfl) (fun h41=>?_) (fun h41=>?_)
    ·skip
     refine SX.qf [(3,decide (0≤o.sv))] [.ld [],.ld [1],.ld [],.ld [],.ld [],.ld [1],.ld [],.ld [3],.ld [],.pk,.ld []] [6] [(.e 6 (.bool (decide (0≤o.sv)&&decide (o.sv<c.params))))] [] [] [] [] hR hM hB mix trivial trivial (fun w' hb' hM'=>trivial) (fun w' hb' hM'=>trivial) fun a42 w43 hR hb44 hB hM=>?_
     replace hkn5:=SX.blk_below hkn5 hb44
     replace hkn9:=SX.blk_below hkn9 hb44
     refine wp_ret ?_
     try simp only [Exit.then,Exit.inBlock,Nat.reduceEqDiff,↓reduceIte]
     refine SX.ret_ 6 (.bool (decide (0≤o.sv)&&decide (o.sv<c.params))) Try.results91 hR (by kernel_rfl) ?_
     clear hR hM mix hK1 hzn5 hb4 hkn5 hln5 hn5 hzn9 qn5n9 hb8 hkn9 hln9 hn9 hb12 hK13 hb16 hb19 hb26 hb33 hb40 hb44
     refine ⟨ret_bool ?_,hB⟩
     unfold R.source
     simp only [h20,h27,h34,h41,Bool.false_eq_true,↓reduceIte]
    ·skip
     refine wp_skip ?_
     refine hK13 _ _ ?_
     refine SX.qs [.ld []] [6] [(.e 6 (.bool false))] hR hM hB mix fun a45 w46 hR hb47 hB hM=>?_
     replace hkn5:=SX.blk_below hkn5 hb47
     replace hkn9:=SX.blk_below hkn9 hb47
     refine wp_ret ?_
     try simp only [Exit.then,Exit.inBlock,Nat.reduceEqDiff,↓reduceIte]
     refine SX.ret_ 6 (.bool false) Try.results91 hR (by kernel_rfl) ?_
     clear hR hM mix hK1 hzn5 hb4 hkn5 hln5 hn5 hzn9 qn5n9 hb8 hkn9 hln9 hn9 hb12 hK13 hb16 hb19 hb26 hb33 hb40 hb47
     refine ⟨ret_bool ?_,hB⟩
     unfold R.source
     simp only [h20,h27,h34,h41,Bool.false_eq_true,↓reduceIte]

def rightBindD (c:CodeD) (ps:Int) (D:List (Int × Int)) (o:OpD) (n:Int):Bool :=
 if !P.within o.var 23||!P.within o.piece 3 then false
 else if o.sk==0 then o.sv==0&&o.sa==0 else if o.sk==1 then o.sv==0 else if o.sk==2 then hasD ps D o.sv n else if o.sk==3 then P.within o.sv (c.params-1) else false

set_option maxHeartbeats 400000 in
theorem rightBind_any (c:CodeD) (v1 v2 v3:Value) (w:World) (h:CodeAt w v1 v2 v3 c) (o:OpD) (n:Int) (hcp:0≤c.params) (ps:Int) (mb:Nat) (D:List (Int × Int)) (hp:0≤ps∧ps≤999) (hD:MapI w mb D):Calls Try.prog 129 #[(.agg #[.I c.params,v1,v2,v3]),(.agg #[.I ps,.map (some mb)]),(.agg #[.I o.kind,.I o.dst,.I o.a,.I o.b,.I o.n,.I o.ctx,.I o.var,.I o.piece,.I o.sk,.I o.sv,.I o.sa]),.I n] w fun e w'=>e=.returned (.bool (rightBindD c ps D o n))∧Below w.heap.size w w':=by
 have hc1:=h.1; unfold I64 at hc1
 have h0:=h
 obtain ⟨A1,k1,rfl,s1⟩:=h.2.1.shape
 obtain ⟨A2,k2,rfl,s2⟩:=h.2.2.1.shape
 obtain ⟨A3,k3,rfl,s3⟩:=h.2.2.2.shape
 unfold Shape at s1 s2 s3
 have mix:=mixed
 have hB:Below w.heap.size w w:=Below.refl _ _
 have hM:SX.Cells w []:=SX.cells_nil
 refine SX.enter [(.agg #[.I c.params,.slice A1 c.blocks.length k1,.slice A2 c.contexts.length k2,.slice A3 c.objects.length k3]),(.agg #[.I ps,.map (some mb)]),(.agg #[.I o.kind,.I o.dst,.I o.a,.I o.b,.I o.n,.I o.ctx,.I o.var,.I o.piece,.I o.sk,.I o.sv,.I o.sa]),(.I n)] 57 Try.func129 rfl rfl (by kernel_rfl) ?_
 intro a hR
 refine wp_seq_k fun K1 hK1=>?_
 refine SX.region_l ?_
 obtain ⟨n5,hn5⟩:∃ n,w.heap.size=n:=⟨_,rfl⟩
 have hzn5:w.heap.size≤n5:=by have:=hB.size; omega
 refine SX.list_box 0 n5 [(.I c.params),(.slice A1 c.blocks.length k1),(.slice A2 c.contexts.length k2),(.slice A3 c.objects.length k3)] 26 ((.e 4 (.P n5))::[(.e 0 (.agg #[.I c.params,.slice A1 c.blocks.length k1,.slice A2 c.contexts.length k2,.slice A3 c.objects.length k3])),(.e 1 (.agg #[.I ps,.map (some mb)])),(.e 2 (.agg #[.I o.kind,.I o.dst,.I o.a,.I o.b,.I o.n,.I o.ctx,.I o.var,.I o.piece,.I o.sk,.I o.sv,.I o.sa])),(.e 3 (.I n))]) [(⟨n5,0,none⟩,(.I c.params)),(⟨n5,1,none⟩,(.slice A1 c.blocks.length k1)),(⟨n5,2,none⟩,(.slice A2 c.contexts.length k2)),(⟨n5,3,none⟩,(.slice A3 c.objects.length k3))] hR hM hn5 (by kernel_rfl) (by kernel_rfl) ?_
 clear hR hM; intro a2 w3 hR hb4 hM hkn5 hln5
 replace hB:=hB.tr hb4
 replace hR:SX.RSt 57 [] [(.e 1 (.agg #[.I ps,.map (some mb)])),(.e 2 (.agg #[.I o.kind,.I o.dst,.I o.a,.I o.b,.I o.n,.I o.ctx,.I o.var,.I o.piece,.I o.sk,.I o.sv,.I o.sa])),(.e 3 (.I n)),(.e 4 (.P n5))] a2:=hR.keep (ts:=[1,2,3,4]) (by kernel_rfl)
 obtain ⟨n9,hn9⟩:∃ n,w3.heap.size=n:=⟨_,rfl⟩
 have hzn9:w.heap.size≤n9:=by have:=hB.size; omega
 have qn5n9:n5<n9:=by have:=(Array.getElem?_eq_some_iff.1 hkn5).1; omega
 refine SX.list_box 1 n9 [(.I ps),(.map (some mb))] 183 ((.e 5 (.P n9))::[(.e 1 (.agg #[.I ps,.map (some mb)])),(.e 2 (.agg #[.I o.kind,.I o.dst,.I o.a,.I o.b,.I o.n,.I o.ctx,.I o.var,.I o.piece,.I o.sk,.I o.sv,.I o.sa])),(.e 3 (.I n)),(.e 4 (.P n5))]) [(⟨n9,0,none⟩,(.I ps)),(⟨n9,1,none⟩,(.map (some mb))),(⟨n5,0,none⟩,(.I c.params)),(⟨n5,1,none⟩,(.slice A1 c.blocks.length k1)),(⟨n5,2,none⟩,(.slice A2 c.contexts.length k2)),(⟨n5,3,none⟩,(.slice A3 c.objects.length k3))] hR hM hn9 (by kernel_rfl) (by kernel_rfl) ?_
 clear hR hM; intro a6 w7 hR hb8 hM hkn9 hln9
 replace hB:=hB.tr hb8
 replace hkn5:=SX.blk_below hkn5 hb8
 replace hR:SX.RSt 57 [] [(.e 2 (.agg #[.I o.kind,.I o.dst,.I o.a,.I o.b,.I o.n,.I o.ctx,.I o.var,.I o.piece,.I o.sk,.I o.sv,.I o.sa])),(.e 3 (.I n)),(.e 4 (.P n5)),(.e 5 (.P n9))] a6:=hR.keep (ts:=[2,3,4,5]) (by kernel_rfl)
 obtain ⟨n13,hn13⟩:∃ n,w7.heap.size=n:=⟨_,rfl⟩
 have hzn13:w.heap.size≤n13:=by have:=hB.size; omega
 have qn5n13:n5<n13:=by have:=(Array.getElem?_eq_some_iff.1 hkn5).1; omega
 have qn9n13:n9<n13:=by have:=(Array.getElem?_eq_some_iff.1 hkn9).1; omega
 refine SX.list_box 2 n13 [(.I o.kind),(.I o.dst),(.I o.a),(.I o.b),(.I o.n),(.I o.ctx),(.I o.var),(.I o.piece),(.I o.sk),(.I o.sv),(.I o.sa)] 74 ((.e 6 (.P n13))::[(.e 2 (.agg #[.I o.kind,.I o.dst,.I o.a,.I o.b,.I o.n,.I o.ctx,.I o.var,.I o.piece,.I o.sk,.I o.sv,.I o.sa])),(.e 3 (.I n)),(.e 4 (.P n5)),(.e 5 (.P n9))]) [(⟨n13,0,none⟩,(.I o.kind)),(⟨n13,1,none⟩,(.I o.dst)),(⟨n13,2,none⟩,(.I o.a)),(⟨n13,3,none⟩,(.I o.b)),(⟨n13,4,none⟩,(.I o.n)),(⟨n13,5,none⟩,(.I o.ctx)),(⟨n13,6,none⟩,(.I o.var)),(⟨n13,7,none⟩,(.I o.piece)),(⟨n13,8,none⟩,(.I o.sk)),(⟨n13,9,none⟩,(.I o.sv)),(⟨n13,10,none⟩,(.I o.sa)),(⟨n9,0,none⟩,(.I ps)),(⟨n9,1,none⟩,(.map (some mb))),(⟨n5,0,none⟩,(.I c.params)),(⟨n5,1,none⟩,(.slice A1 c.blocks.length k1)),(⟨n5,2,none⟩,(.slice A2 c.contexts.length k2)),(⟨n5,3,none⟩,(.slice A3 c.objects.length k3))] hR hM hn13 (by kernel_rfl) (by kernel_rfl) ?_
 clear hR hM; intro a10 w11 hR hb12 hM hkn13 hln13
 replace hB:=hB.tr hb12
 replace hkn5:=SX.blk_below hkn5 hb12
 replace hkn9:=SX.blk_below hkn9 hb12
 replace hR:SX.RSt 57 [] [(.e 3 (.I n)),(.e 4 (.P n5)),(.e 5 (.P n9)),(.e 6 (.P n13))] a10:=hR.keep (ts:=[3,4,5,6]) (by kernel_rfl)
 refine SX.list_q0 (κ:=[]) 3 1 [.ld []] [3,4,5,6] [(.e 3 (.I n)),(.e 4 (.P n5)),(.e 5 (.P n9)),(.e 6 (.P n13))] hR hM (by kernel_rfl) (by kernel_rfl) ?_
 clear hR hM; intro a14 w15 hR hb16 hM
 replace hB:=hB.tr hb16
 replace hkn5:=SX.blk_below hkn5 hb16
 replace hkn9:=SX.blk_below hkn9 hb16
 replace hkn13:=SX.blk_below hkn13 hb16
 refine SX.list_end 4 (by kernel_rfl) ?_
 refine hK1 _ _ ?_
 refine wp_seq_k fun K17 hK17=>?_
 refine SX.qf [(4,(!(P.within o.var 23)))] [.ld [],.ld [6],.cl (.bool (P.within o.var 23)),.ld [],.ld [],.ld [],.ld [7],.cl (.bool (P.within o.piece 3)),.ld [],.pk] [3,4,5,6,18] [(.e 18 (.bool ((!(P.within o.var 23))||(!(P.within o.piece 3)))))] [] [] [([],84,#[(.I o.var),(.I 23)],(.bool (P.within o.var 23))),([(4,false)],84,#[(.I o.piece),(.I 3)],(.bool (P.within o.piece 3)))] [] hR hM hB mix trivial trivial (fun w' hb' hM'=>trivial) (fun w' hb' hM'=>⟨fun hg=>SX.pureC (within_any _ _ _),fun hg=>SX.pureC (within_any _ _ _),trivial⟩) fun a18 w19 hR hb20 hB hM=>?_
 replace hkn5:=SX.blk_below hkn5 hb20
 replace hkn9:=SX.blk_below hkn9 hb20
 replace hkn13:=SX.blk_below hkn13 hb20
 refine SX.cond_ ((!(P.within o.var 23))||(!(P.within o.piece 3))) hR (by kernel_rfl) (fun h21=>?_) (fun h21=>?_)
 ·skip
  refine SX.qs [.ld []] [8] [(.e 8 (.bool false))] hR hM hB mix fun a22 w23 hR hb24 hB hM=>?_
  replace hkn5:=SX.blk_below hkn5 hb24
  replace hkn9:=SX.blk_below hkn9 hb24
  replace hkn13:=SX.blk_below hkn13 hb24
  refine wp_ret ?_
  try simp only [Exit.then,Exit.inBlock,Nat.reduceEqDiff,↓reduceIte]
  refine SX.ret_ 8 (.bool false) Try.results129 hR (by kernel_rfl) ?_
  clear hR hM mix hK1 hzn5 hb4 hkn5 hln5 hn5 hzn9 qn5n9 hb8 hkn9 hln9 hn9 hzn13 qn5n13 qn9n13 hb12 hkn13 hln13 hn13 hb16 hK17 hb20 hb24
  refine ⟨ret_bool ?_,hB⟩
  unfold rightBindD
  simp only [h21,Bool.false_eq_true,↓reduceIte]
 ·skip
  refine wp_skip ?_
  refine hK17 _ _ ?_
  refine wp_seq_k fun K25 hK25=>?_
  refine SX.qs [.ld [],.ld [],.ld [8]] [3,4,5,6,21] [(.e 21 (.I o.sk))] hR hM hB mix fun a26 w27 hR hb28 hB hM=>?_
  replace hkn5:=SX.blk_below hkn5 hb28
  replace hkn9:=SX.blk_below hkn9 hb28
  replace hkn13:=SX.blk_below hkn13 hb28
  refine wp_block ?_
  refine SX.qs [.ld [],.ld []] [3,4,5,6,21,22] [(.e 22 (.bool (o.sk==0)))] hR hM hB mix fun a29 w30 hR hb31 hB hM=>?_
  replace hkn5:=SX.blk_below hkn5 hb31
  replace hkn9:=SX.blk_below hkn9 hb31
  replace hkn13:=SX.blk_below hkn13 hb31
  refine SX.cond_ (o.sk==0) hR (by kernel_rfl) (fun h32=>?_) (fun h32=>?_)
  ·skip
   refine SX.qf [(4,(o.sv==0))] [.ld [],.ld [],.ld [9],.ld [],.ld [],.ld [],.ld [],.ld [10],.ld [],.pk,.ld []] [8] [(.e 8 (.bool ((o.sv==0)&&(o.sa==0))))] [] [] [] [] hR hM hB mix trivial trivial (fun w' hb' hM'=>trivial) (fun w' hb' hM'=>trivial) fun a33 w34 hR hb35 hB hM=>?_
   replace hkn5:=SX.blk_below hkn5 hb35
   replace hkn9:=SX.blk_below hkn9 hb35
   replace hkn13:=SX.blk_below hkn13 hb35
   refine wp_ret ?_
   try simp only [Exit.then,Exit.inBlock,Nat.reduceEqDiff,↓reduceIte]
   refine SX.ret_ 8 (.bool ((o.sv==0)&&(o.sa==0))) Try.results129 hR (by kernel_rfl) ?_
   clear hR hM mix hK1 hzn5 hb4 hkn5 hln5 hn5 hzn9 qn5n9 hb8 hkn9 hln9 hn9 hzn13 qn5n13 qn9n13 hb12 hkn13 hln13 hn13 hb16 hK17 hb20 hK25 hb28 hb31 hb35
   refine ⟨ret_bool ?_,hB⟩
   unfold rightBindD
   simp only [h21,h32,Bool.false_eq_true,↓reduceIte]
  ·skip
   refine SX.qs [.ld [],.ld []] [3,4,5,6,21,34] [(.e 34 (.bool (o.sk==1)))] hR hM hB mix fun a36 w37 hR hb38 hB hM=>?_
   replace hkn5:=SX.blk_below hkn5 hb38
   replace hkn9:=SX.blk_below hkn9 hb38
   replace hkn13:=SX.blk_below hkn13 hb38
   refine SX.cond_ (o.sk==1) hR (by kernel_rfl) (fun h39=>?_) (fun h39=>?_)
   ·skip
    refine SX.qs [.ld [],.ld [],.ld [9],.ld [],.ld []] [8] [(.e 8 (.bool (o.sv==0)))] hR hM hB mix fun a40 w41 hR hb42 hB hM=>?_
    replace hkn5:=SX.blk_below hkn5 hb42
    replace hkn9:=SX.blk_below hkn9 hb42
    replace hkn13:=SX.blk_below hkn13 hb42
    refine wp_ret ?_
    try simp only [Exit.then,Exit.inBlock,Nat.reduceEqDiff,↓reduceIte]
    refine SX.ret_ 8 (.bool (o.sv==0)) Try.results129 hR (by kernel_rfl) ?_
    clear hR hM mix hK1 hzn5 hb4 hkn5 hln5 hn5 hzn9 qn5n9 hb8 hkn9 hln9 hn9 hzn13 qn5n13 qn9n13 hb12 hkn13 hln13 hn13 hb16 hK17 hb20 hK25 hb28 hb31 hb38 hb42
    refine ⟨ret_bool ?_,hB⟩
    unfold rightBindD
    simp only [h21,h32,h39,Bool.false_eq_true,↓reduceIte]
   ·skip
    refine SX.qs [.ld [],.ld []] [3,4,5,6,21,40] [(.e 40 (.bool (o.sk==2)))] hR hM hB mix fun a43 w44 hR hb45 hB hM=>?_
    replace hkn5:=SX.blk_below hkn5 hb45
    replace hkn9:=SX.blk_below hkn9 hb45
    replace hkn13:=SX.blk_below hkn13 hb45
    refine SX.cond_ (o.sk==2) hR (by kernel_rfl) (fun h46=>?_) (fun h46=>?_)
    ·skip
     refine SX.qf [] [.ld [11,12],.ld [],.ld [],.ld [9],.ld [],.cl (.bool (hasD ps D o.sv n)),.ld []] [8] [(.e 8 (.bool (hasD ps D o.sv n)))] [] [] [([],154,#[(.agg #[.I ps,.map (some mb)]),(.I o.sv),(.I n)],(.bool (hasD ps D o.sv n)))] [] hR hM hB mix trivial trivial (fun w' hb' hM'=>trivial) (fun w' hb' hM'=>⟨fun hg=>sc_has _ _ _ _ _ _ hp (hD.below (hB.tr hb')),trivial⟩) fun a47 w48 hR hb49 hB hM=>?_
     replace hkn5:=SX.blk_below hkn5 hb49
     replace hkn9:=SX.blk_below hkn9 hb49
     replace hkn13:=SX.blk_below hkn13 hb49
     refine wp_ret ?_
     try simp only [Exit.then,Exit.inBlock,Nat.reduceEqDiff,↓reduceIte]
     refine SX.ret_ 8 (.bool (hasD ps D o.sv n)) Try.results129 hR (by kernel_rfl) ?_
     clear hR hM mix hK1 hzn5 hb4 hkn5 hln5 hn5 hzn9 qn5n9 hb8 hkn9 hln9 hn9 hzn13 qn5n13 qn9n13 hb12 hkn13 hln13 hn13 hb16 hK17 hb20 hK25 hb28 hb31 hb38 hb45 hb49
     refine ⟨ret_bool ?_,hB⟩
     unfold rightBindD
     simp only [h21,h32,h39,h46,Bool.false_eq_true,↓reduceIte]
    ·skip
     refine SX.qs [.ld [],.ld []] [4,6,48] [(.e 48 (.bool (o.sk==3)))] hR hM hB mix fun a50 w51 hR hb52 hB hM=>?_
     replace hkn5:=SX.blk_below hkn5 hb52
     replace hkn9:=SX.blk_below hkn9 hb52
     replace hkn13:=SX.blk_below hkn13 hb52
     refine SX.cond_ (o.sk==3) hR (by kernel_rfl) (fun h53=>?_) (fun h53=>?_)
     ·skip
      refine SX.qf [] [.ld [],.ld [],.ld [9],.ld [],.ld [13],.nm (.I (c.params-1)),.cl (.bool (P.within o.sv (c.params-1))),.ld []] [8] [(.e 8 (.bool (P.within o.sv (c.params-1))))] [] [] [([],84,#[(.I o.sv),(.I (c.params-1))],(.bool (P.within o.sv (c.params-1))))] [([],(.I (IntKind.i64.wrap (c.params-1))),(.I (c.params-1)))] hR hM hB mix trivial ⟨fun hg=>SX.wrap_ok (by omega),trivial⟩ (fun w' hb' hM'=>trivial) (fun w' hb' hM'=>⟨fun hg=>SX.pureC (within_any _ _ _),trivial⟩) fun a54 w55 hR hb56 hB hM=>?_
      replace hkn5:=SX.blk_below hkn5 hb56
      replace hkn9:=SX.blk_below hkn9 hb56
      replace hkn13:=SX.blk_below hkn13 hb56
      refine wp_ret ?_
      try simp only [Exit.then,Exit.inBlock,Nat.reduceEqDiff,↓reduceIte]
      refine SX.ret_ 8 (.bool (P.within o.sv (c.params-1))) Try.results129 hR (by kernel_rfl) ?_
      clear hR hM mix hK1 hzn5 hb4 hkn5 hln5 hn5 hzn9 qn5n9 hb8 hkn9 hln9 hn9 hzn13 qn5n13 qn9n13 hb12 hkn13 hln13 hn13 hb16 hK17 hb20 hK25 hb28 hb31 hb38 hb45 hb52 hb56
      refine ⟨ret_bool ?_,hB⟩
      unfold rightBindD
      simp only [h21,h32,h39,h46,h53,Bool.false_eq_true,↓reduceIte]
     ·skip
      refine wp_skip ?_
      refine hK25 _ _ ?_
      refine SX.qs [.ld []] [8] [(.e 8 (.bool false))] hR hM hB mix fun a57 w58 hR hb59 hB hM=>?_
      replace hkn5:=SX.blk_below hkn5 hb59
      replace hkn9:=SX.blk_below hkn9 hb59
      replace hkn13:=SX.blk_below hkn13 hb59
      refine wp_ret ?_
      try simp only [Exit.then,Exit.inBlock,Nat.reduceEqDiff,↓reduceIte]
      refine SX.ret_ 8 (.bool false) Try.results129 hR (by kernel_rfl) ?_
      clear hR hM mix hK1 hzn5 hb4 hkn5 hln5 hn5 hzn9 qn5n9 hb8 hkn9 hln9 hn9 hzn13 qn5n13 qn9n13 hb12 hkn13 hln13 hn13 hb16 hK17 hb20 hK25 hb28 hb31 hb38 hb45 hb52 hb59
      refine ⟨ret_bool ?_,hB⟩
      unfold rightBindD
      simp only [h21,h32,h39,h46,h53,Bool.false_eq_true,↓reduceIte]

set_option maxHeartbeats 400000 in
theorem clean1_any (u x f:Int) (nf:Nat) (w:World) (hf:w.cell? ⟨nf,0,none⟩=some (.I f)):Calls Try.prog 153 #[(.I u),(.I x),(.P nf)] w fun e w'=>e=.returned (.bool ((andI f u==0)&&x != 0))∧Below w.heap.size w w':=by
 have mix:=mixed
 have hB:Below w.heap.size w w:=Below.refl _ _
 have hM:SX.Cells w [(⟨nf,0,none⟩,.I f)]:=SX.cells_cons hf SX.cells_nil
 refine SX.enter [(.I u),(.I x),(.P nf)] 14 Try.func153 rfl rfl (by kernel_rfl) ?_
 intro a hR
 refine SX.qs [.ld []] [0,1,2] [] hR hM hB mix fun a1 w2 hR hb3 hB hM=>?_
 refine SX.qf [(4,((andI f u)==0))] [.ld [0],.ld [],.ld [],.ld [],.ld [],.ld [],.ld [],.pk,.ld []] [5] [(.e 5 (.bool (((andI f u)==0)&&(x != 0))))] [] [] [] [] hR hM hB mix trivial trivial (fun w' hb' hM'=>trivial) (fun w' hb' hM'=>trivial) fun a4 w5 hR hb6 hB hM=>?_
 refine wp_ret ?_
 try simp only [Exit.then,Exit.inBlock,Nat.reduceEqDiff,↓reduceIte]
 refine SX.ret_ 5 (.bool (((andI f u)==0)&&(x != 0))) Try.results153 hR (by kernel_rfl) ?_
 clear hR hM mix hb3 hb6
 exact ⟨rfl,hB⟩

set_option maxHeartbeats 400000 in
theorem clean_any (o:OpD) (w:World):Calls Try.prog 127 #[(.agg #[.I o.kind,.I o.dst,.I o.a,.I o.b,.I o.n,.I o.ctx,.I o.var,.I o.piece,.I o.sk,.I o.sv,.I o.sa])] w fun e w'=>e=.returned (.bool (P.clean o))∧Below w.heap.size w w':=by
 have mix:=mixed
 have hB:Below w.heap.size w w:=Below.refl _ _
 have hM:SX.Cells w []:=SX.cells_nil
 refine SX.enter [(.agg #[.I o.kind,.I o.dst,.I o.a,.I o.b,.I o.n,.I o.ctx,.I o.var,.I o.piece,.I o.sk,.I o.sv,.I o.sa])] 63 Try.func127 rfl rfl (by kernel_rfl) ?_
 intro a hR
 refine wp_seq_k fun K1 hK1=>?_
 refine SX.region_l ?_
 obtain ⟨n5,hn5⟩:∃ n,w.heap.size=n:=⟨_,rfl⟩
 have hzn5:w.heap.size≤n5:=by have:=hB.size; omega
 refine SX.list_box 0 n5 [(.I o.kind),(.I o.dst),(.I o.a),(.I o.b),(.I o.n),(.I o.ctx),(.I o.var),(.I o.piece),(.I o.sk),(.I o.sv),(.I o.sa)] 74 ((.e 1 (.P n5))::[(.e 0 (.agg #[.I o.kind,.I o.dst,.I o.a,.I o.b,.I o.n,.I o.ctx,.I o.var,.I o.piece,.I o.sk,.I o.sv,.I o.sa]))]) [(⟨n5,0,none⟩,(.I o.kind)),(⟨n5,1,none⟩,(.I o.dst)),(⟨n5,2,none⟩,(.I o.a)),(⟨n5,3,none⟩,(.I o.b)),(⟨n5,4,none⟩,(.I o.n)),(⟨n5,5,none⟩,(.I o.ctx)),(⟨n5,6,none⟩,(.I o.var)),(⟨n5,7,none⟩,(.I o.piece)),(⟨n5,8,none⟩,(.I o.sk)),(⟨n5,9,none⟩,(.I o.sv)),(⟨n5,10,none⟩,(.I o.sa))] hR hM hn5 (by kernel_rfl) (by kernel_rfl) ?_
 clear hR hM; intro a2 w3 hR hb4 hM hkn5 hln5
 replace hB:=hB.tr hb4
 replace hR:SX.RSt 63 [] [(.e 1 (.P n5))] a2:=hR.keep (ts:=[1]) (by kernel_rfl)
 refine SX.list_q0 (κ:=[]) 1 1 [.ld []] [1] [(.e 1 (.P n5))] hR hM (by kernel_rfl) (by kernel_rfl) ?_
 clear hR hM; intro a6 w7 hR hb8 hM
 replace hB:=hB.tr hb8
 replace hkn5:=SX.blk_below hkn5 hb8
 refine SX.list_end 2 (by kernel_rfl) ?_
 refine hK1 _ _ ?_
 refine wp_seq_k fun K9 hK9=>?_
 refine SX.region_l ?_
 refine SX.list_q (κ:=[]) 0 3 [.ld [],.ld [0],.cl (.I (fieldsN o.kind))] [1,7] [(.e 1 (.P n5)),(.e 7 (.I (fieldsN o.kind)))] [] [] [([],126,#[(.I o.kind)],(.I (fieldsN o.kind)))] [] hR hM (by kernel_rfl) (by kernel_rfl) trivial trivial (fun w' hb' hM'=>trivial) (fun w' hb' hM'=>⟨fun hg=>SX.pureC (fields_any _ _),trivial⟩) ?_
 clear hR hM; intro a10 w11 hR hb12 hM
 replace hB:=hB.tr hb12
 replace hkn5:=SX.blk_below hkn5 hb12
 obtain ⟨n16,hn16⟩:∃ n,w11.heap.size=n:=⟨_,rfl⟩
 have hzn16:w.heap.size≤n16:=by have:=hB.size; omega
 have qn5n16:n5<n16:=by have:=(Array.getElem?_eq_some_iff.1 hkn5).1; omega
 refine SX.list_alloc 3 n16 [(.I 0)] 3 ((.e 3 (.P n16))::[(.e 1 (.P n5)),(.e 7 (.I (fieldsN o.kind)))]) hR hM hn16 (by kernel_rfl) ?_
 clear hR hM; intro a13 w14 hR hb15 hM hkn16 hln16 hnen16
 replace hB:=hB.tr hb15
 replace hkn5:=SX.blk_below hkn5 hb15
 replace hR:SX.RSt 63 [] [(.e 1 (.P n5)),(.e 3 (.P n16)),(.e 7 (.I (fieldsN o.kind)))] a13:=hR.keep (ts:=[1,3,7]) (by kernel_rfl)
 refine SX.list_store 4 [(0,(.I (fieldsN o.kind)))] [(.I (fieldsN o.kind))] [(⟨n5,0,none⟩,(.I o.kind)),(⟨n5,1,none⟩,(.I o.dst)),(⟨n5,2,none⟩,(.I o.a)),(⟨n5,3,none⟩,(.I o.b)),(⟨n5,4,none⟩,(.I o.n)),(⟨n5,5,none⟩,(.I o.ctx)),(⟨n5,6,none⟩,(.I o.var)),(⟨n5,7,none⟩,(.I o.piece)),(⟨n5,8,none⟩,(.I o.sk)),(⟨n5,9,none⟩,(.I o.sv)),(⟨n5,10,none⟩,(.I o.sa))] [(⟨n16,0,none⟩,(.I (fieldsN o.kind))),(⟨n5,0,none⟩,(.I o.kind)),(⟨n5,1,none⟩,(.I o.dst)),(⟨n5,2,none⟩,(.I o.a)),(⟨n5,3,none⟩,(.I o.b)),(⟨n5,4,none⟩,(.I o.n)),(⟨n5,5,none⟩,(.I o.ctx)),(⟨n5,6,none⟩,(.I o.var)),(⟨n5,7,none⟩,(.I o.piece)),(⟨n5,8,none⟩,(.I o.sk)),(⟨n5,9,none⟩,(.I o.sv)),(⟨n5,10,none⟩,(.I o.sa))] hR (SX.cells_sub hM [0,1,2,3,4,5,6,7,8,9,10] (by kernel_rfl)) hnen16 hkn16 (by kernel_rfl) (by kernel_rfl) (by kernel_rfl) ?_
 clear hR hM hkn16; intro a17 w18 hR hb19 hM hkn16
 replace hB:=hB.trans (hb19.below (by omega))
 replace hkn5:=(hb19.block _ (by omega)).trans hkn5
 refine SX.list_end 5 (by kernel_rfl) ?_
 refine hK9 _ _ ?_
 refine wp_seq_k fun K20 hK20=>?_
 refine SX.qs [.ld [0],.ld []] [1,3,9] [(.e 9 (.bool ((fieldsN o.kind)==0)))] hR hM hB mix fun a21 w22 hR hb23 hB hM=>?_
 replace hkn5:=SX.blk_below hkn5 hb23
 replace hkn16:=SX.blk_below hkn16 hb23
 refine SX.cond_ ((fieldsN o.kind)==0) hR (by kernel_rfl) (fun h24=>?_) (fun h24=>?_)
 ·skip
  refine SX.qs [.ld []] [2] [(.e 2 (.bool false))] hR hM hB mix fun a25 w26 hR hb27 hB hM=>?_
  replace hkn5:=SX.blk_below hkn5 hb27
  replace hkn16:=SX.blk_below hkn16 hb27
  refine wp_ret ?_
  try simp only [Exit.then,Exit.inBlock,Nat.reduceEqDiff,↓reduceIte]
  refine SX.ret_ 2 (.bool false) Try.results127 hR (by kernel_rfl) ?_
  clear hR hM mix hK1 hzn5 hb4 hkn5 hln5 hn5 hb8 hK9 hb12 hzn16 qn5n16 hb15 hkn16 hln16 hn16 hnen16 hb19 hK20 hb23 hb27
  refine ⟨ret_bool ?_,hB⟩
  unfold P.clean
  simp only [f_zero,f_dst,f_a,f_b,f_n,f_ctx,f_bind] at *
  simp_all [Bool.and_assoc]
 ·skip
  refine wp_skip ?_
  refine hK20 _ _ ?_
  refine SX.qs [.ld [],.ld []] [1,3,4] [(.e 4 (.func (.func 153) #[] #[(.P n16)]))] hR hM hB mix fun a28 w29 hR hb30 hB hM=>?_
  replace hkn5:=SX.blk_below hkn5 hb30
  replace hkn16:=SX.blk_below hkn16 hb30
  refine SX.qf [(4,(andI (fieldsN o.kind) 1==0&&o.dst != 0)),(10,((andI (fieldsN o.kind) 1==0&&o.dst != 0)||(andI (fieldsN o.kind) 2==0&&o.a != 0))),(16,(((andI (fieldsN o.kind) 1==0&&o.dst != 0)||(andI (fieldsN o.kind) 2==0&&o.a != 0))||(andI (fieldsN o.kind) 4==0&&o.b != 0))),(22,((((andI (fieldsN o.kind) 1==0&&o.dst != 0)||(andI (fieldsN o.kind) 2==0&&o.a != 0))||(andI (fieldsN o.kind) 4==0&&o.b != 0))||(andI (fieldsN o.kind) 8==0&&o.n != 0))),(28,(((((andI (fieldsN o.kind) 1==0&&o.dst != 0)||(andI (fieldsN o.kind) 2==0&&o.a != 0))||(andI (fieldsN o.kind) 4==0&&o.b != 0))||(andI (fieldsN o.kind) 8==0&&o.n != 0))||(andI (fieldsN o.kind) 16==0&&o.ctx != 0))),(34,((((((andI (fieldsN o.kind) 1==0&&o.dst != 0)||(andI (fieldsN o.kind) 2==0&&o.a != 0))||(andI (fieldsN o.kind) 4==0&&o.b != 0))||(andI (fieldsN o.kind) 8==0&&o.n != 0))||(andI (fieldsN o.kind) 16==0&&o.ctx != 0))||(andI (fieldsN o.kind) 32==0&&o.var != 0))),(40,(((((((andI (fieldsN o.kind) 1==0&&o.dst != 0)||(andI (fieldsN o.kind) 2==0&&o.a != 0))||(andI (fieldsN o.kind) 4==0&&o.b != 0))||(andI (fieldsN o.kind) 8==0&&o.n != 0))||(andI (fieldsN o.kind) 16==0&&o.ctx != 0))||(andI (fieldsN o.kind) 32==0&&o.var != 0))||(andI (fieldsN o.kind) 32==0&&o.piece != 0))),(44,((andI (fieldsN o.kind) 32)==0))] [.ld [],.ld [],.ld [2],.cl (.bool (andI (fieldsN o.kind) 1==0&&o.dst != 0)),.ld [],.ld [],.ld [],.ld [3],.cl (.bool (andI (fieldsN o.kind) 2==0&&o.a != 0)),.pk,.ld [],.ld [],.ld [],.ld [4],.cl (.bool (andI (fieldsN o.kind) 4==0&&o.b != 0)),.pk,.ld [],.ld [],.ld [],.ld [5],.cl (.bool (andI (fieldsN o.kind) 8==0&&o.n != 0)),.pk,.ld [],.ld [],.ld [],.ld [6],.cl (.bool (andI (fieldsN o.kind) 16==0&&o.ctx != 0)),.pk,.ld [],.ld [],.ld [],.ld [7],.cl (.bool (andI (fieldsN o.kind) 32==0&&o.var != 0)),.pk,.ld [],.ld [],.ld [],.ld [8],.cl (.bool (andI (fieldsN o.kind) 32==0&&o.piece != 0)),.pk,.ld [],.ld [0],.ld [],.ld [],.ld [],.ld [],.ld [9,10,11],.ld [],.hd (.bool (!(o.sk==0&&(o.sv==0&&o.sa==0)))),.pk,.pk,.ld [],.ld []] [2] [(.e 2 (.bool (!((((((((andI (fieldsN o.kind) 1==0&&o.dst != 0)||(andI (fieldsN o.kind) 2==0&&o.a != 0))||(andI (fieldsN o.kind) 4==0&&o.b != 0))||(andI (fieldsN o.kind) 8==0&&o.n != 0))||(andI (fieldsN o.kind) 16==0&&o.ctx != 0))||(andI (fieldsN o.kind) 32==0&&o.var != 0))||(andI (fieldsN o.kind) 32==0&&o.piece != 0))||(((andI (fieldsN o.kind) 32)==0)&&(!(o.sk==0&&(o.sv==0&&o.sa==0))))))))] [] [([(44,true),(40,false)],binS .neq 72 (.tmp 57) (.tmp 58) (.agg #[.I o.sk,.I o.sv,.I o.sa]) (.agg #[.I 0,.I 0,.I 0]),(.bool (!(o.sk==0&&(o.sv==0&&o.sa==0)))))] [([],153,#[(.I 1),(.I o.dst),(.P n16)],(.bool (andI (fieldsN o.kind) 1==0&&o.dst != 0))),([(4,false)],153,#[(.I 2),(.I o.a),(.P n16)],(.bool (andI (fieldsN o.kind) 2==0&&o.a != 0))),([(10,false)],153,#[(.I 4),(.I o.b),(.P n16)],(.bool (andI (fieldsN o.kind) 4==0&&o.b != 0))),([(16,false)],153,#[(.I 8),(.I o.n),(.P n16)],(.bool (andI (fieldsN o.kind) 8==0&&o.n != 0))),([(22,false)],153,#[(.I 16),(.I o.ctx),(.P n16)],(.bool (andI (fieldsN o.kind) 16==0&&o.ctx != 0))),([(28,false)],153,#[(.I 32),(.I o.var),(.P n16)],(.bool (andI (fieldsN o.kind) 32==0&&o.var != 0))),([(34,false)],153,#[(.I 32),(.I o.piece),(.P n16)],(.bool (andI (fieldsN o.kind) 32==0&&o.piece != 0)))] [] hR hM hB mix trivial trivial (fun w' hb' hM'=>⟨fun hg=>src_ne _ _ _ _ _ _,trivial⟩) (fun w' hb' hM'=>⟨fun hg=>clean1_any _ _ _ _ _ (hM' (⟨n16,0,none⟩,(.I (fieldsN o.kind))) (SX.mget_mem (i:=0) (by kernel_rfl))),fun hg=>clean1_any _ _ _ _ _ (hM' (⟨n16,0,none⟩,(.I (fieldsN o.kind))) (SX.mget_mem (i:=0) (by kernel_rfl))),fun hg=>clean1_any _ _ _ _ _ (hM' (⟨n16,0,none⟩,(.I (fieldsN o.kind))) (SX.mget_mem (i:=0) (by kernel_rfl))),fun hg=>clean1_any _ _ _ _ _ (hM' (⟨n16,0,none⟩,(.I (fieldsN o.kind))) (SX.mget_mem (i:=0) (by kernel_rfl))),fun hg=>clean1_any _ _ _ _ _ (hM' (⟨n16,0,none⟩,(.I (fieldsN o.kind))) (SX.mget_mem (i:=0) (by kernel_rfl))),fun hg=>clean1_any _ _ _ _ _ (hM' (⟨n16,0,none⟩,(.I (fieldsN o.kind))) (SX.mget_mem (i:=0) (by kernel_rfl))),fun hg=>clean1_any _ _ _ _ _ (hM' (⟨n16,0,none⟩,(.I (fieldsN o.kind))) (SX.mget_mem (i:=0) (by kernel_rfl))),trivial⟩) fun a31 w32 hR hb33 hB hM=>?_
  replace hkn5:=SX.blk_below hkn5 hb33
  replace hkn16:=SX.blk_below hkn16 hb33
  refine wp_ret ?_
  try simp only [Exit.then,Exit.inBlock,Nat.reduceEqDiff,↓reduceIte]
  refine SX.ret_ 2 (.bool (!((((((((andI (fieldsN o.kind) 1==0&&o.dst != 0)||(andI (fieldsN o.kind) 2==0&&o.a != 0))||(andI (fieldsN o.kind) 4==0&&o.b != 0))||(andI (fieldsN o.kind) 8==0&&o.n != 0))||(andI (fieldsN o.kind) 16==0&&o.ctx != 0))||(andI (fieldsN o.kind) 32==0&&o.var != 0))||(andI (fieldsN o.kind) 32==0&&o.piece != 0))||(((andI (fieldsN o.kind) 32)==0)&&(!(o.sk==0&&(o.sv==0&&o.sa==0))))))) Try.results127 hR (by kernel_rfl) ?_
  clear hR hM mix hK1 hzn5 hb4 hkn5 hln5 hn5 hb8 hK9 hb12 hzn16 qn5n16 hb15 hkn16 hln16 hn16 hnen16 hb19 hK20 hb23 hb30 hb33
  refine ⟨ret_bool ?_,hB⟩
  unfold P.clean
  simp only [f_zero,f_dst,f_a,f_b,f_n,f_ctx,f_bind] at *
  simp_all [Bool.and_assoc]

def rightOpD (c:CodeD) (ps:Int) (D:List (Int × Int)) (o:OpD) (i:Int):Bool :=
 if ((andI (fieldsN o.kind) 2 != 0&&!hasD ps D o.a i)||(andI (fieldsN o.kind) 4 != 0&&!hasD ps D o.b i))||(andI (fieldsN o.kind) 16 != 0&&!P.within o.ctx ((c.contexts.length:Int)-1)) then false
 else if o.kind==15 then P.within o.n ((c.objects.length:Int)-1) else if o.kind==16 then P.within o.n ((c.objects.length:Int)-1) else if o.kind==17 then P.within o.n ((c.objects.length:Int)-1)
 else if o.kind==19 then P.within o.n 9999 else if o.kind==20 then P.within o.n 9999
 else true

set_option maxHeartbeats 400000 in
theorem rightOp_any (c:CodeD) (v1 v2 v3:Value) (w:World) (h:CodeAt w v1 v2 v3 c) (o:OpD) (i:Int) (ps:Int) (mb:Nat) (D:List (Int × Int)) (hp:0≤ps∧ps≤999) (hD:MapI w mb D):Calls Try.prog 128 #[(.agg #[.I c.params,v1,v2,v3]),(.agg #[.I ps,.map (some mb)]),(.agg #[.I o.kind,.I o.dst,.I o.a,.I o.b,.I o.n,.I o.ctx,.I o.var,.I o.piece,.I o.sk,.I o.sv,.I o.sa]),.I i] w fun e w'=>e=.returned (.bool (rightOpD c ps D o i))∧Below w.heap.size w w':=by
 have h0:=h
 obtain ⟨A1,k1,rfl,s1⟩:=h.2.1.shape
 obtain ⟨A2,k2,rfl,s2⟩:=h.2.2.1.shape
 obtain ⟨A3,k3,rfl,s3⟩:=h.2.2.2.shape
 unfold Shape at s1 s2 s3
 have mix:=mixed
 have hB:Below w.heap.size w w:=Below.refl _ _
 have hM:SX.Cells w []:=SX.cells_nil
 refine SX.enter [(.agg #[.I c.params,.slice A1 c.blocks.length k1,.slice A2 c.contexts.length k2,.slice A3 c.objects.length k3]),(.agg #[.I ps,.map (some mb)]),(.agg #[.I o.kind,.I o.dst,.I o.a,.I o.b,.I o.n,.I o.ctx,.I o.var,.I o.piece,.I o.sk,.I o.sv,.I o.sa]),(.I i)] 71 Try.func128 rfl rfl (by kernel_rfl) ?_
 intro a hR
 refine wp_seq_k fun K1 hK1=>?_
 refine SX.region_l ?_
 obtain ⟨n5,hn5⟩:∃ n,w.heap.size=n:=⟨_,rfl⟩
 have hzn5:w.heap.size≤n5:=by have:=hB.size; omega
 refine SX.list_box 0 n5 [(.I c.params),(.slice A1 c.blocks.length k1),(.slice A2 c.contexts.length k2),(.slice A3 c.objects.length k3)] 26 ((.e 4 (.P n5))::[(.e 0 (.agg #[.I c.params,.slice A1 c.blocks.length k1,.slice A2 c.contexts.length k2,.slice A3 c.objects.length k3])),(.e 1 (.agg #[.I ps,.map (some mb)])),(.e 2 (.agg #[.I o.kind,.I o.dst,.I o.a,.I o.b,.I o.n,.I o.ctx,.I o.var,.I o.piece,.I o.sk,.I o.sv,.I o.sa])),(.e 3 (.I i))]) [(⟨n5,0,none⟩,(.I c.params)),(⟨n5,1,none⟩,(.slice A1 c.blocks.length k1)),(⟨n5,2,none⟩,(.slice A2 c.contexts.length k2)),(⟨n5,3,none⟩,(.slice A3 c.objects.length k3))] hR hM hn5 (by kernel_rfl) (by kernel_rfl) ?_
 clear hR hM; intro a2 w3 hR hb4 hM hkn5 hln5
 replace hB:=hB.tr hb4
 replace hR:SX.RSt 71 [] [(.e 1 (.agg #[.I ps,.map (some mb)])),(.e 2 (.agg #[.I o.kind,.I o.dst,.I o.a,.I o.b,.I o.n,.I o.ctx,.I o.var,.I o.piece,.I o.sk,.I o.sv,.I o.sa])),(.e 3 (.I i)),(.e 4 (.P n5))] a2:=hR.keep (ts:=[1,2,3,4]) (by kernel_rfl)
 obtain ⟨n9,hn9⟩:∃ n,w3.heap.size=n:=⟨_,rfl⟩
 have hzn9:w.heap.size≤n9:=by have:=hB.size; omega
 have qn5n9:n5<n9:=by have:=(Array.getElem?_eq_some_iff.1 hkn5).1; omega
 refine SX.list_box 1 n9 [(.I ps),(.map (some mb))] 183 ((.e 5 (.P n9))::[(.e 1 (.agg #[.I ps,.map (some mb)])),(.e 2 (.agg #[.I o.kind,.I o.dst,.I o.a,.I o.b,.I o.n,.I o.ctx,.I o.var,.I o.piece,.I o.sk,.I o.sv,.I o.sa])),(.e 3 (.I i)),(.e 4 (.P n5))]) [(⟨n9,0,none⟩,(.I ps)),(⟨n9,1,none⟩,(.map (some mb))),(⟨n5,0,none⟩,(.I c.params)),(⟨n5,1,none⟩,(.slice A1 c.blocks.length k1)),(⟨n5,2,none⟩,(.slice A2 c.contexts.length k2)),(⟨n5,3,none⟩,(.slice A3 c.objects.length k3))] hR hM hn9 (by kernel_rfl) (by kernel_rfl) ?_
 clear hR hM; intro a6 w7 hR hb8 hM hkn9 hln9
 replace hB:=hB.tr hb8
 replace hkn5:=SX.blk_below hkn5 hb8
 replace hR:SX.RSt 71 [] [(.e 2 (.agg #[.I o.kind,.I o.dst,.I o.a,.I o.b,.I o.n,.I o.ctx,.I o.var,.I o.piece,.I o.sk,.I o.sv,.I o.sa])),(.e 3 (.I i)),(.e 4 (.P n5)),(.e 5 (.P n9))] a6:=hR.keep (ts:=[2,3,4,5]) (by kernel_rfl)
 obtain ⟨n13,hn13⟩:∃ n,w7.heap.size=n:=⟨_,rfl⟩
 have hzn13:w.heap.size≤n13:=by have:=hB.size; omega
 have qn5n13:n5<n13:=by have:=(Array.getElem?_eq_some_iff.1 hkn5).1; omega
 have qn9n13:n9<n13:=by have:=(Array.getElem?_eq_some_iff.1 hkn9).1; omega
 refine SX.list_box 2 n13 [(.I o.kind),(.I o.dst),(.I o.a),(.I o.b),(.I o.n),(.I o.ctx),(.I o.var),(.I o.piece),(.I o.sk),(.I o.sv),(.I o.sa)] 74 ((.e 6 (.P n13))::[(.e 2 (.agg #[.I o.kind,.I o.dst,.I o.a,.I o.b,.I o.n,.I o.ctx,.I o.var,.I o.piece,.I o.sk,.I o.sv,.I o.sa])),(.e 3 (.I i)),(.e 4 (.P n5)),(.e 5 (.P n9))]) [(⟨n13,0,none⟩,(.I o.kind)),(⟨n13,1,none⟩,(.I o.dst)),(⟨n13,2,none⟩,(.I o.a)),(⟨n13,3,none⟩,(.I o.b)),(⟨n13,4,none⟩,(.I o.n)),(⟨n13,5,none⟩,(.I o.ctx)),(⟨n13,6,none⟩,(.I o.var)),(⟨n13,7,none⟩,(.I o.piece)),(⟨n13,8,none⟩,(.I o.sk)),(⟨n13,9,none⟩,(.I o.sv)),(⟨n13,10,none⟩,(.I o.sa)),(⟨n9,0,none⟩,(.I ps)),(⟨n9,1,none⟩,(.map (some mb))),(⟨n5,0,none⟩,(.I c.params)),(⟨n5,1,none⟩,(.slice A1 c.blocks.length k1)),(⟨n5,2,none⟩,(.slice A2 c.contexts.length k2)),(⟨n5,3,none⟩,(.slice A3 c.objects.length k3))] hR hM hn13 (by kernel_rfl) (by kernel_rfl) ?_
 clear hR hM; intro a10 w11 hR hb12 hM hkn13 hln13
 replace hB:=hB.tr hb12
 replace hkn5:=SX.blk_below hkn5 hb12
 replace hkn9:=SX.blk_below hkn9 hb12
 replace hR:SX.RSt 71 [] [(.e 3 (.I i)),(.e 4 (.P n5)),(.e 5 (.P n9)),(.e 6 (.P n13))] a10:=hR.keep (ts:=[3,4,5,6]) (by kernel_rfl)
 refine SX.list_q0 (κ:=[]) 3 1 [.ld []] [3,4,5,6] [(.e 3 (.I i)),(.e 4 (.P n5)),(.e 5 (.P n9)),(.e 6 (.P n13))] hR hM (by kernel_rfl) (by kernel_rfl) ?_
 clear hR hM; intro a14 w15 hR hb16 hM
 replace hB:=hB.tr hb16
 replace hkn5:=SX.blk_below hkn5 hb16
 replace hkn9:=SX.blk_below hkn9 hb16
 replace hkn13:=SX.blk_below hkn13 hb16
 refine SX.list_end 4 (by kernel_rfl) ?_
 refine hK1 _ _ ?_
 refine SX.qf [] [.ld [],.ld [0],.cl (.I (fieldsN o.kind)),.ld []] [3,4,5,6,9] [(.e 9 (.I (fieldsN o.kind)))] [] [] [([],126,#[(.I o.kind)],(.I (fieldsN o.kind)))] [] hR hM hB mix trivial trivial (fun w' hb' hM'=>trivial) (fun w' hb' hM'=>⟨fun hg=>SX.pureC (fields_any _ _),trivial⟩) fun a17 w18 hR hb19 hB hM=>?_
 replace hkn5:=SX.blk_below hkn5 hb19
 replace hkn9:=SX.blk_below hkn9 hb19
 replace hkn13:=SX.blk_below hkn13 hb19
 refine wp_seq_k fun K20 hK20=>?_
 refine SX.qf [(3,((andI (fieldsN o.kind) 2) != 0)),(11,(((andI (fieldsN o.kind) 2) != 0)&&(!(hasD ps D o.a i)))),(15,((andI (fieldsN o.kind) 4) != 0)),(24,((((andI (fieldsN o.kind) 2) != 0)&&(!(hasD ps D o.a i)))||(((andI (fieldsN o.kind) 4) != 0)&&(!(hasD ps D o.b i))))),(28,((andI (fieldsN o.kind) 16) != 0))] [.ld [],.ld [],.ld [],.ld [],.ld [11,12],.ld [],.ld [2],.ld [],.cl (.bool (hasD ps D o.a i)),.ld [],.pk,.ld [],.ld [],.ld [],.ld [],.ld [],.ld [11,12],.ld [],.ld [3],.ld [],.cl (.bool (hasD ps D o.b i)),.ld [],.pk,.pk,.ld [],.ld [],.ld [],.ld [],.ld [],.ld [],.ld [5],.ld [],.ld [15],.ld [],.nm (.I ((c.contexts.length:Int)-1)),.cl (.bool (P.within o.ctx ((c.contexts.length:Int)-1))),.ld [],.pk,.pk] [4,6,51] [(.e 51 (.bool (((((andI (fieldsN o.kind) 2) != 0)&&(!(hasD ps D o.a i)))||(((andI (fieldsN o.kind) 4) != 0)&&(!(hasD ps D o.b i))))||(((andI (fieldsN o.kind) 16) != 0)&&(!(P.within o.ctx ((c.contexts.length:Int)-1)))))))] [] [] [([(3,true)],154,#[(.agg #[.I ps,.map (some mb)]),(.I o.a),(.I i)],(.bool (hasD ps D o.a i))),([(15,true),(11,false)],154,#[(.agg #[.I ps,.map (some mb)]),(.I o.b),(.I i)],(.bool (hasD ps D o.b i))),([(28,true),(24,false)],84,#[(.I o.ctx),(.I ((c.contexts.length:Int)-1))],(.bool (P.within o.ctx ((c.contexts.length:Int)-1))))] [([(28,true),(24,false)],(.I (IntKind.i64.wrap ((c.contexts.length:Int)-1))),(.I ((c.contexts.length:Int)-1)))] hR hM hB mix trivial ⟨fun hg=>SX.wrap_ok (by omega),trivial⟩ (fun w' hb' hM'=>trivial) (fun w' hb' hM'=>⟨fun hg=>sc_has _ _ _ _ _ _ hp (hD.below (hB.tr hb')),fun hg=>sc_has _ _ _ _ _ _ hp (hD.below (hB.tr hb')),fun hg=>SX.pureC (within_any _ _ _),trivial⟩) fun a21 w22 hR hb23 hB hM=>?_
 replace hkn5:=SX.blk_below hkn5 hb23
 replace hkn9:=SX.blk_below hkn9 hb23
 replace hkn13:=SX.blk_below hkn13 hb23
 refine SX.cond_ (((((andI (fieldsN o.kind) 2) != 0)&&(!(hasD ps D o.a i)))||(((andI (fieldsN o.kind) 4) != 0)&&(!(hasD ps D o.b i))))||(((andI (fieldsN o.kind) 16) != 0)&&(!(P.within o.ctx ((c.contexts.length:Int)-1))))) hR (by kernel_rfl) (fun h24=>?_) (fun h24=>?_)
 ·skip
  refine SX.qs [.ld []] [8] [(.e 8 (.bool false))] hR hM hB mix fun a25 w26 hR hb27 hB hM=>?_
  replace hkn5:=SX.blk_below hkn5 hb27
  replace hkn9:=SX.blk_below hkn9 hb27
  replace hkn13:=SX.blk_below hkn13 hb27
  refine wp_ret ?_
  try simp only [Exit.then,Exit.inBlock,Nat.reduceEqDiff,↓reduceIte]
  refine SX.ret_ 8 (.bool false) Try.results128 hR (by kernel_rfl) ?_
  clear hR hM mix hK1 hzn5 hb4 hkn5 hln5 hn5 hzn9 qn5n9 hb8 hkn9 hln9 hn9 hzn13 qn5n13 qn9n13 hb12 hkn13 hln13 hn13 hb16 hb19 hK20 hb23 hb27
  refine ⟨ret_bool ?_,hB⟩
  unfold rightOpD
  simp only [h24,Bool.false_eq_true,↓reduceIte]
  try rfl
 ·skip
  refine wp_skip ?_
  refine hK20 _ _ ?_
  refine wp_seq_k fun K28 hK28=>?_
  refine SX.qs [.ld [],.ld [0]] [4,6,53] [(.e 53 (.I o.kind))] hR hM hB mix fun a29 w30 hR hb31 hB hM=>?_
  replace hkn5:=SX.blk_below hkn5 hb31
  replace hkn9:=SX.blk_below hkn9 hb31
  replace hkn13:=SX.blk_below hkn13 hb31
  refine wp_block ?_
  refine wp_seq_k fun K32 hK32=>?_
  refine SX.qs [.ld [],.ld []] [4,6,53,54] [(.e 54 (.bool (o.kind==15)))] hR hM hB mix fun a33 w34 hR hb35 hB hM=>?_
  replace hkn5:=SX.blk_below hkn5 hb35
  replace hkn9:=SX.blk_below hkn9 hb35
  replace hkn13:=SX.blk_below hkn13 hb35
  refine SX.cond_ (o.kind==15) hR (by kernel_rfl) (fun h36=>?_) (fun h36=>?_)
  ·skip
   refine wp_skip ?_
   refine hK32 _ _ ?_
   refine SX.cond_ (o.kind==15) hR (by kernel_rfl) (fun h37=>?_) (fun h37=>nomatch (h36.symm.trans h37))
   refine SX.qf [] [.ld [],.ld [4],.ld [],.ld [16],.ld [],.nm (.I ((c.objects.length:Int)-1)),.cl (.bool (P.within o.n ((c.objects.length:Int)-1))),.ld []] [8] [(.e 8 (.bool (P.within o.n ((c.objects.length:Int)-1))))] [] [] [([],84,#[(.I o.n),(.I ((c.objects.length:Int)-1))],(.bool (P.within o.n ((c.objects.length:Int)-1))))] [([],(.I (IntKind.i64.wrap ((c.objects.length:Int)-1))),(.I ((c.objects.length:Int)-1)))] hR hM hB mix trivial ⟨fun hg=>SX.wrap_ok (by omega),trivial⟩ (fun w' hb' hM'=>trivial) (fun w' hb' hM'=>⟨fun hg=>SX.pureC (within_any _ _ _),trivial⟩) fun a38 w39 hR hb40 hB hM=>?_
   replace hkn5:=SX.blk_below hkn5 hb40
   replace hkn9:=SX.blk_below hkn9 hb40
   replace hkn13:=SX.blk_below hkn13 hb40
   refine wp_ret ?_
   try simp only [Exit.then,Exit.inBlock,Nat.reduceEqDiff,↓reduceIte]
   refine SX.ret_ 8 (.bool (P.within o.n ((c.objects.length:Int)-1))) Try.results128 hR (by kernel_rfl) ?_
   clear hR hM mix hK1 hzn5 hb4 hkn5 hln5 hn5 hzn9 qn5n9 hb8 hkn9 hln9 hn9 hzn13 qn5n13 qn9n13 hb12 hkn13 hln13 hn13 hb16 hb19 hK20 hb23 hK28 hb31 hK32 hb35 hb40
   refine ⟨ret_bool ?_,hB⟩
   unfold rightOpD
   simp only [h24,h36,Bool.false_eq_true,↓reduceIte]
   try rfl
  ·skip
   refine SX.qs [.ld [],.ld []] [4,6,53,54] [(.e 54 (.bool (o.kind==16)))] hR hM hB mix fun a41 w42 hR hb43 hB hM=>?_
   replace hkn5:=SX.blk_below hkn5 hb43
   replace hkn9:=SX.blk_below hkn9 hb43
   replace hkn13:=SX.blk_below hkn13 hb43
   refine SX.cond_ (o.kind==16) hR (by kernel_rfl) (fun h44=>?_) (fun h44=>?_)
   ·skip
    refine wp_skip ?_
    refine hK32 _ _ ?_
    refine SX.cond_ (o.kind==16) hR (by kernel_rfl) (fun h45=>?_) (fun h45=>nomatch (h44.symm.trans h45))
    refine SX.qf [] [.ld [],.ld [4],.ld [],.ld [16],.ld [],.nm (.I ((c.objects.length:Int)-1)),.cl (.bool (P.within o.n ((c.objects.length:Int)-1))),.ld []] [8] [(.e 8 (.bool (P.within o.n ((c.objects.length:Int)-1))))] [] [] [([],84,#[(.I o.n),(.I ((c.objects.length:Int)-1))],(.bool (P.within o.n ((c.objects.length:Int)-1))))] [([],(.I (IntKind.i64.wrap ((c.objects.length:Int)-1))),(.I ((c.objects.length:Int)-1)))] hR hM hB mix trivial ⟨fun hg=>SX.wrap_ok (by omega),trivial⟩ (fun w' hb' hM'=>trivial) (fun w' hb' hM'=>⟨fun hg=>SX.pureC (within_any _ _ _),trivial⟩) fun a46 w47 hR hb48 hB hM=>?_
    replace hkn5:=SX.blk_below hkn5 hb48
    replace hkn9:=SX.blk_below hkn9 hb48
    replace hkn13:=SX.blk_below hkn13 hb48
    refine wp_ret ?_
    try simp only [Exit.then,Exit.inBlock,Nat.reduceEqDiff,↓reduceIte]
    refine SX.ret_ 8 (.bool (P.within o.n ((c.objects.length:Int)-1))) Try.results128 hR (by kernel_rfl) ?_
    clear hR hM mix hK1 hzn5 hb4 hkn5 hln5 hn5 hzn9 qn5n9 hb8 hkn9 hln9 hn9 hzn13 qn5n13 qn9n13 hb12 hkn13 hln13 hn13 hb16 hb19 hK20 hb23 hK28 hb31 hK32 hb35 hb43 hb48
    refine ⟨ret_bool ?_,hB⟩
    unfold rightOpD
    simp only [h24,h36,h44,Bool.false_eq_true,↓reduceIte]
    try rfl
   ·skip
    refine SX.qs0 [.ld [],.ld []] [4,6,53,54] [(.e 54 (.bool (o.kind==17)))] hR hM hB mix fun a49 w50 hR hb51 hB hM=>?_
    replace hkn5:=SX.blk_below hkn5 hb51
    replace hkn9:=SX.blk_below hkn9 hb51
    replace hkn13:=SX.blk_below hkn13 hb51
    refine hK32 _ _ ?_
    refine SX.cond_ (o.kind==17) hR (by kernel_rfl) (fun h52=>?_) (fun h52=>?_)
    ·skip
     refine SX.qf [] [.ld [],.ld [4],.ld [],.ld [16],.ld [],.nm (.I ((c.objects.length:Int)-1)),.cl (.bool (P.within o.n ((c.objects.length:Int)-1))),.ld []] [8] [(.e 8 (.bool (P.within o.n ((c.objects.length:Int)-1))))] [] [] [([],84,#[(.I o.n),(.I ((c.objects.length:Int)-1))],(.bool (P.within o.n ((c.objects.length:Int)-1))))] [([],(.I (IntKind.i64.wrap ((c.objects.length:Int)-1))),(.I ((c.objects.length:Int)-1)))] hR hM hB mix trivial ⟨fun hg=>SX.wrap_ok (by omega),trivial⟩ (fun w' hb' hM'=>trivial) (fun w' hb' hM'=>⟨fun hg=>SX.pureC (within_any _ _ _),trivial⟩) fun a53 w54 hR hb55 hB hM=>?_
     replace hkn5:=SX.blk_below hkn5 hb55
     replace hkn9:=SX.blk_below hkn9 hb55
     replace hkn13:=SX.blk_below hkn13 hb55
     refine wp_ret ?_
     try simp only [Exit.then,Exit.inBlock,Nat.reduceEqDiff,↓reduceIte]
     refine SX.ret_ 8 (.bool (P.within o.n ((c.objects.length:Int)-1))) Try.results128 hR (by kernel_rfl) ?_
     clear hR hM mix hK1 hzn5 hb4 hkn5 hln5 hn5 hzn9 qn5n9 hb8 hkn9 hln9 hn9 hzn13 qn5n13 qn9n13 hb12 hkn13 hln13 hn13 hb16 hb19 hK20 hb23 hK28 hb31 hK32 hb35 hb43 hb51 hb55
     refine ⟨ret_bool ?_,hB⟩
     unfold rightOpD
     simp only [h24,h36,h44,h52,Bool.false_eq_true,↓reduceIte]
     try rfl
    ·skip
     refine wp_seq_k fun K56 hK56=>?_
     refine SX.qs [.ld [],.ld []] [6,53,65] [(.e 65 (.bool (o.kind==19)))] hR hM hB mix fun a57 w58 hR hb59 hB hM=>?_
     replace hkn5:=SX.blk_below hkn5 hb59
     replace hkn9:=SX.blk_below hkn9 hb59
     replace hkn13:=SX.blk_below hkn13 hb59
     refine SX.cond_ (o.kind==19) hR (by kernel_rfl) (fun h60=>?_) (fun h60=>?_)
     ·skip
      refine wp_skip ?_
      refine hK56 _ _ ?_
      refine SX.cond_ (o.kind==19) hR (by kernel_rfl) (fun h61=>?_) (fun h61=>nomatch (h60.symm.trans h61))
      refine SX.qf [] [.ld [],.ld [4],.cl (.bool (P.within o.n 9999)),.ld []] [8] [(.e 8 (.bool (P.within o.n 9999)))] [] [] [([],84,#[(.I o.n),(.I 9999)],(.bool (P.within o.n 9999)))] [] hR hM hB mix trivial trivial (fun w' hb' hM'=>trivial) (fun w' hb' hM'=>⟨fun hg=>SX.pureC (within_any _ _ _),trivial⟩) fun a62 w63 hR hb64 hB hM=>?_
      replace hkn5:=SX.blk_below hkn5 hb64
      replace hkn9:=SX.blk_below hkn9 hb64
      replace hkn13:=SX.blk_below hkn13 hb64
      refine wp_ret ?_
      try simp only [Exit.then,Exit.inBlock,Nat.reduceEqDiff,↓reduceIte]
      refine SX.ret_ 8 (.bool (P.within o.n 9999)) Try.results128 hR (by kernel_rfl) ?_
      clear hR hM mix hK1 hzn5 hb4 hkn5 hln5 hn5 hzn9 qn5n9 hb8 hkn9 hln9 hn9 hzn13 qn5n13 qn9n13 hb12 hkn13 hln13 hn13 hb16 hb19 hK20 hb23 hK28 hb31 hK32 hb35 hb43 hb51 hK56 hb59 hb64
      refine ⟨ret_bool ?_,hB⟩
      unfold rightOpD
      simp only [h24,h36,h44,h52,h60,Bool.false_eq_true,↓reduceIte]
      try rfl
     ·skip
      refine SX.qs0 [.ld [],.ld []] [6,65] [(.e 65 (.bool (o.kind==20)))] hR hM hB mix fun a65 w66 hR hb67 hB hM=>?_
      replace hkn5:=SX.blk_below hkn5 hb67
      replace hkn9:=SX.blk_below hkn9 hb67
      replace hkn13:=SX.blk_below hkn13 hb67
      refine hK56 _ _ ?_
      refine SX.cond_ (o.kind==20) hR (by kernel_rfl) (fun h68=>?_) (fun h68=>?_)
      ·skip
       refine SX.qf [] [.ld [],.ld [4],.cl (.bool (P.within o.n 9999)),.ld []] [8] [(.e 8 (.bool (P.within o.n 9999)))] [] [] [([],84,#[(.I o.n),(.I 9999)],(.bool (P.within o.n 9999)))] [] hR hM hB mix trivial trivial (fun w' hb' hM'=>trivial) (fun w' hb' hM'=>⟨fun hg=>SX.pureC (within_any _ _ _),trivial⟩) fun a69 w70 hR hb71 hB hM=>?_
       replace hkn5:=SX.blk_below hkn5 hb71
       replace hkn9:=SX.blk_below hkn9 hb71
       replace hkn13:=SX.blk_below hkn13 hb71
       refine wp_ret ?_
       try simp only [Exit.then,Exit.inBlock,Nat.reduceEqDiff,↓reduceIte]
       refine SX.ret_ 8 (.bool (P.within o.n 9999)) Try.results128 hR (by kernel_rfl) ?_
       clear hR hM mix hK1 hzn5 hb4 hkn5 hln5 hn5 hzn9 qn5n9 hb8 hkn9 hln9 hn9 hzn13 qn5n13 qn9n13 hb12 hkn13 hln13 hn13 hb16 hb19 hK20 hb23 hK28 hb31 hK32 hb35 hb43 hb51 hK56 hb59 hb67 hb71
       refine ⟨ret_bool ?_,hB⟩
       unfold rightOpD
       simp only [h24,h36,h44,h52,h60,h68,Bool.false_eq_true,↓reduceIte]
       try rfl
      ·skip
       refine wp_skip ?_
       refine hK28 _ _ ?_
       refine SX.qs [.ld []] [8] [(.e 8 (.bool true))] hR hM hB mix fun a72 w73 hR hb74 hB hM=>?_
       replace hkn5:=SX.blk_below hkn5 hb74
       replace hkn9:=SX.blk_below hkn9 hb74
       replace hkn13:=SX.blk_below hkn13 hb74
       refine wp_ret ?_
       try simp only [Exit.then,Exit.inBlock,Nat.reduceEqDiff,↓reduceIte]
       refine SX.ret_ 8 (.bool true) Try.results128 hR (by kernel_rfl) ?_
       clear hR hM mix hK1 hzn5 hb4 hkn5 hln5 hn5 hzn9 qn5n9 hb8 hkn9 hln9 hn9 hzn13 qn5n13 qn9n13 hb12 hkn13 hln13 hn13 hb16 hb19 hK20 hb23 hK28 hb31 hK32 hb35 hb43 hb51 hK56 hb59 hb67 hb74
       refine ⟨ret_bool ?_,hB⟩
       unfold rightOpD
       simp only [h24,h36,h44,h52,h60,h68,Bool.false_eq_true,↓reduceIte]
       try rfl
end Go.Proofs.Ytlkcidmmpeebeaa

/- Proved: rightEdge,rightHead,all -/
namespace Go.Proofs.Ytlkcidmmpeebeaa
open Go.RowKit
set_option maxRecDepth 100000
set_option maxHeartbeats 400000 in
theorem rightEdge_any (c:CodeD) (v1 v2 v3:Value) (w:World) (h:CodeAt w v1 v2 v3 c) (blk kind:Int) (u:Value) (args:List Int) (hu:IntsAt w u args):Calls Try.prog 157 #[(.agg #[.I c.params,v1,v2,v3]),.agg #[.I blk,u],.I kind] w fun e w'=>e=.returned (.bool (P.rightEdge c blk args kind))∧Below w.heap.size w w':=by
 have h0:=h
 obtain ⟨A1,k1,rfl,s1⟩:=h.2.1.shape
 obtain ⟨A2,k2,rfl,s2⟩:=h.2.2.1.shape
 obtain ⟨A3,k3,rfl,s3⟩:=h.2.2.2.shape
 unfold Shape at s1 s2 s3
 obtain ⟨Au,ku,rfl,su⟩:=hu.shape
 unfold Shape at su
 have mix:=mixed
 have hB:Below w.heap.size w w:=Below.refl _ _
 have hM:SX.Cells w []:=SX.cells_nil
 refine SX.enter [(.agg #[.I c.params,.slice A1 c.blocks.length k1,.slice A2 c.contexts.length k2,.slice A3 c.objects.length k3]),(.agg #[.I blk,.slice Au args.length ku]),(.I kind)] 35 Try.func157 rfl rfl (by kernel_rfl) ?_
 intro a hR
 refine wp_seq_k fun K1 hK1=>?_
 refine SX.region_l ?_
 obtain ⟨n5,hn5⟩:∃ n,w.heap.size=n:=⟨_,rfl⟩
 have hzn5:w.heap.size≤n5:=by have:=hB.size; omega
 refine SX.list_box 0 n5 [(.I c.params),(.slice A1 c.blocks.length k1),(.slice A2 c.contexts.length k2),(.slice A3 c.objects.length k3)] 26 ((.e 3 (.P n5))::[(.e 0 (.agg #[.I c.params,.slice A1 c.blocks.length k1,.slice A2 c.contexts.length k2,.slice A3 c.objects.length k3])),(.e 1 (.agg #[.I blk,.slice Au args.length ku])),(.e 2 (.I kind))]) [(⟨n5,0,none⟩,(.I c.params)),(⟨n5,1,none⟩,(.slice A1 c.blocks.length k1)),(⟨n5,2,none⟩,(.slice A2 c.contexts.length k2)),(⟨n5,3,none⟩,(.slice A3 c.objects.length k3))] hR hM hn5 (by kernel_rfl) (by kernel_rfl) ?_
 clear hR hM; intro a2 w3 hR hb4 hM hkn5 hln5
 replace hB:=hB.tr hb4
 replace hR:SX.RSt 35 [] [(.e 1 (.agg #[.I blk,.slice Au args.length ku])),(.e 2 (.I kind)),(.e 3 (.P n5))] a2:=hR.keep (ts:=[1,2,3]) (by kernel_rfl)
 obtain ⟨n9,hn9⟩:∃ n,w3.heap.size=n:=⟨_,rfl⟩
 have hzn9:w.heap.size≤n9:=by have:=hB.size; omega
 have qn5n9:n5<n9:=by have:=(Array.getElem?_eq_some_iff.1 hkn5).1; omega
 refine SX.list_box 1 n9 [(.I blk),(.slice Au args.length ku)] 57 ((.e 4 (.P n9))::[(.e 1 (.agg #[.I blk,.slice Au args.length ku])),(.e 2 (.I kind)),(.e 3 (.P n5))]) [(⟨n9,0,none⟩,(.I blk)),(⟨n9,1,none⟩,(.slice Au args.length ku)),(⟨n5,0,none⟩,(.I c.params)),(⟨n5,1,none⟩,(.slice A1 c.blocks.length k1)),(⟨n5,2,none⟩,(.slice A2 c.contexts.length k2)),(⟨n5,3,none⟩,(.slice A3 c.objects.length k3))] hR hM hn9 (by kernel_rfl) (by kernel_rfl) ?_
 clear hR hM; intro a6 w7 hR hb8 hM hkn9 hln9
 replace hB:=hB.tr hb8
 replace hkn5:=SX.blk_below hkn5 hb8
 replace hR:SX.RSt 35 [] [(.e 2 (.I kind)),(.e 3 (.P n5)),(.e 4 (.P n9))] a6:=hR.keep (ts:=[2,3,4]) (by kernel_rfl)
 refine SX.list_q0 (κ:=[]) 2 1 [.ld []] [2,3,4] [(.e 2 (.I kind)),(.e 3 (.P n5)),(.e 4 (.P n9))] hR hM (by kernel_rfl) (by kernel_rfl) ?_
 clear hR hM; intro a10 w11 hR hb12 hM
 replace hB:=hB.tr hb12
 replace hkn5:=SX.blk_below hkn5 hb12
 replace hkn9:=SX.blk_below hkn9 hb12
 refine SX.list_end 3 (by kernel_rfl) ?_
 refine hK1 _ _ ?_
 refine wp_seq_k fun K13 hK13=>?_
 refine SX.qf [(3,decide (blk<1))] [.ld [],.ld [0],.ld [],.ld [],.ld [],.ld [0],.ld [],.ld [3],.ld [],.ld [],.pk] [2,3,4,18] [(.e 18 (.bool (decide (blk<1)||decide ((c.blocks.length:Int)≤blk))))] [] [] [] [] hR hM hB mix trivial trivial (fun w' hb' hM'=>trivial) (fun w' hb' hM'=>trivial) fun a14 w15 hR hb16 hB hM=>?_
 replace hkn5:=SX.blk_below hkn5 hb16
 replace hkn9:=SX.blk_below hkn9 hb16
 refine SX.cond_ (decide (blk<1)||decide ((c.blocks.length:Int)≤blk)) hR (by kernel_rfl) (fun h17=>?_) (fun h17=>?_)
 ·skip
  refine SX.qs [.ld []] [6] [(.e 6 (.bool false))] hR hM hB mix fun a18 w19 hR hb20 hB hM=>?_
  replace hkn5:=SX.blk_below hkn5 hb20
  replace hkn9:=SX.blk_below hkn9 hb20
  refine wp_ret ?_
  try simp only [Exit.then,Exit.inBlock,Nat.reduceEqDiff,↓reduceIte]
  refine SX.ret_ 6 (.bool false) Try.results157 hR (by kernel_rfl) ?_
  clear hR hM mix hK1 hzn5 hb4 hkn5 hln5 hn5 hzn9 qn5n9 hb8 hkn9 hln9 hn9 hb12 hK13 hb16 hb20
  refine ⟨ret_bool ?_,hB⟩
  unfold P.rightEdge
  simp only [h17,Bool.false_eq_true,↓reduceIte]
 ·skip
  refine wp_skip ?_
  refine hK13 _ _ ?_
  refine SX.qs [.ld [],.ld [1],.ld [],.ld []] [2,3,4,7] [(.e 7 (.I (args.length:Int)))] hR hM hB mix fun a21 w22 hR hb23 hB hM=>?_
  replace hkn5:=SX.blk_below hkn5 hb23
  replace hkn9:=SX.blk_below hkn9 hb23
  refine wp_seq_k fun K24 hK24=>?_
  refine SX.qs [.ld [],.ld []] [3,4,7,23] [(.e 23 (.bool (kind==3)))] hR hM hB mix fun a25 w26 hR hb27 hB hM=>?_
  replace hkn5:=SX.blk_below hkn5 hb27
  replace hkn9:=SX.blk_below hkn9 hb27
  refine SX.cond_ (kind==3) hR (by kernel_rfl) (fun h28=>?_) (fun h28=>?_)
  ·skip
   refine SX.qf0 [] [.ld [],.nm (.I ((args.length+1:Nat):Int)),.ld []] [3,4,7] [(.e 7 (.I ((args.length+1:Nat):Int)))] [] [] [] [([],(.I (IntKind.i64.wrap ((args.length:Int)+1))),(.I ((args.length+1:Nat):Int)))] hR hM hB mix trivial ⟨fun hg=>SX.wrap_ok (by omega),trivial⟩ (fun w' hb' hM'=>trivial) (fun w' hb' hM'=>trivial) fun a29 w30 hR hb31 hB hM=>?_
   replace hkn5:=SX.blk_below hkn5 hb31
   replace hkn9:=SX.blk_below hkn9 hb31
   refine hK24 _ _ ?_
   have hb0:0≤blk∧blk<(c.blocks.length:Int):=by simp only [Bool.or_eq_false_iff,decide_eq_false_iff_not] at h17; omega
   obtain ⟨x,hx⟩:=get_of_lt (l:=c.blocks) (k:=blk.toNat) (by omega)
   obtain ⟨bbx,box,hAx,B1x,j1x,B2x,j2x,B3x,j3x,B4x,j4x,hsx,hblx,cb0x,cb1x,cb2x,cb3x,cb4x,cb5x,cb6x,cb7x,cb8x,cb9x⟩:=h0.2.1.elem hx
   subst hAx; unfold Shape at hsx
   have hox:bbx<w.heap.size:=World.block_lt_of_cell? w _ cb0x
   replace hM:=(SX.cells_add (cell_below hB cb0x) (SX.cells_add (cell_below hB cb1x) (SX.cells_add (cell_below hB cb2x) (SX.cells_add (cell_below hB cb3x) (SX.cells_add (cell_below hB cb4x) (SX.cells_add (cell_below hB cb5x) (SX.cells_add (cell_below hB cb6x) (SX.cells_add (cell_below hB cb7x) (SX.cells_add (cell_below hB cb8x) (SX.cells_add (cell_below hB cb9x) hM))))))))))
   refine SX.qf [] [.ld [],.ld [],.ld [13],.ld [],.ld [10],.ix ⟨bbx,box+blk.toNat*10,none⟩,.ld [],.ld [0],.ld [],.ld []] [6] [(.e 6 (.bool (((args.length+1:Nat):Int)==x.params)))] [([],⟨bbx,box,none⟩,c.blocks.length,blk,10,⟨bbx,box+blk.toNat*10,none⟩)] [] [] [] hR hM hB mix ⟨fun hg=>ix_int hb0.1 hb0.2,trivial⟩ trivial (fun w' hb' hM'=>trivial) (fun w' hb' hM'=>trivial) fun a32 w33 hR hb34 hB hM=>?_
   replace hkn5:=SX.blk_below hkn5 hb34
   replace hkn9:=SX.blk_below hkn9 hb34
   refine wp_ret ?_
   try simp only [Exit.then,Exit.inBlock,Nat.reduceEqDiff,↓reduceIte]
   refine SX.ret_ 6 (.bool (((args.length+1:Nat):Int)==x.params)) Try.results157 hR (by kernel_rfl) ?_
   clear hR hM mix hK1 hzn5 hb4 hkn5 hln5 hn5 hzn9 qn5n9 hb8 hkn9 hln9 hn9 hb12 hK13 hb16 hb23 hK24 hb27 hb31 hb34
   refine ⟨ret_bool ?_,hB⟩
   unfold P.rightEdge
   simp only [h17,h28,Bool.false_eq_true,↓reduceIte,params_at hx]
   try rfl
  ·skip
   refine wp_skip ?_
   refine hK24 _ _ ?_
   have hb0:0≤blk∧blk<(c.blocks.length:Int):=by simp only [Bool.or_eq_false_iff,decide_eq_false_iff_not] at h17; omega
   obtain ⟨x,hx⟩:=get_of_lt (l:=c.blocks) (k:=blk.toNat) (by omega)
   obtain ⟨bbx,box,hAx,B1x,j1x,B2x,j2x,B3x,j3x,B4x,j4x,hsx,hblx,cb0x,cb1x,cb2x,cb3x,cb4x,cb5x,cb6x,cb7x,cb8x,cb9x⟩:=h0.2.1.elem hx
   subst hAx; unfold Shape at hsx
   have hox:bbx<w.heap.size:=World.block_lt_of_cell? w _ cb0x
   replace hM:=(SX.cells_add (cell_below hB cb0x) (SX.cells_add (cell_below hB cb1x) (SX.cells_add (cell_below hB cb2x) (SX.cells_add (cell_below hB cb3x) (SX.cells_add (cell_below hB cb4x) (SX.cells_add (cell_below hB cb5x) (SX.cells_add (cell_below hB cb6x) (SX.cells_add (cell_below hB cb7x) (SX.cells_add (cell_below hB cb8x) (SX.cells_add (cell_below hB cb9x) hM))))))))))
   refine SX.qf [] [.ld [],.ld [],.ld [13],.ld [],.ld [10],.ix ⟨bbx,box+blk.toNat*10,none⟩,.ld [],.ld [0],.ld [],.ld []] [6] [(.e 6 (.bool ((args.length:Int)==x.params)))] [([],⟨bbx,box,none⟩,c.blocks.length,blk,10,⟨bbx,box+blk.toNat*10,none⟩)] [] [] [] hR hM hB mix ⟨fun hg=>ix_int hb0.1 hb0.2,trivial⟩ trivial (fun w' hb' hM'=>trivial) (fun w' hb' hM'=>trivial) fun a35 w36 hR hb37 hB hM=>?_
   replace hkn5:=SX.blk_below hkn5 hb37
   replace hkn9:=SX.blk_below hkn9 hb37
   refine wp_ret ?_
   try simp only [Exit.then,Exit.inBlock,Nat.reduceEqDiff,↓reduceIte]
   refine SX.ret_ 6 (.bool ((args.length:Int)==x.params)) Try.results157 hR (by kernel_rfl) ?_
   clear hR hM mix hK1 hzn5 hb4 hkn5 hln5 hn5 hzn9 qn5n9 hb8 hkn9 hln9 hn9 hb12 hK13 hb16 hb23 hK24 hb27 hb37
   refine ⟨ret_bool ?_,hB⟩
   unfold P.rightEdge
   simp only [h17,h28,Bool.false_eq_true,↓reduceIte,params_at hx]
   try rfl

set_option maxHeartbeats 400000 in
theorem rightHead_cons (c:CodeD) (v1 v2 v3:Value) (w:World) (h:CodeAt w v1 v2 v3 c) (hne:0<c.blocks.length):Calls Try.prog 81 #[(.agg #[.I c.params,v1,v2,v3])] w fun e w'=>e=.returned (.bool (P.rightHead c))∧Below w.heap.size w w':=by
 have h0:=h
 obtain ⟨A1,k1,rfl,s1⟩:=h.2.1.shape
 obtain ⟨A2,k2,rfl,s2⟩:=h.2.2.1.shape
 obtain ⟨A3,k3,rfl,s3⟩:=h.2.2.2.shape
 unfold Shape at s1 s2 s3
 have mix:=mixed
 have hB:Below w.heap.size w w:=Below.refl _ _
 have hM:SX.Cells w []:=SX.cells_nil
 refine SX.enter [(.agg #[.I c.params,.slice A1 c.blocks.length k1,.slice A2 c.contexts.length k2,.slice A3 c.objects.length k3])] 22 Try.func81 rfl rfl (by kernel_rfl) ?_
 intro a hR
 refine wp_seq_k fun K1 hK1=>?_
 refine SX.region_l ?_
 obtain ⟨n5,hn5⟩:∃ n,w.heap.size=n:=⟨_,rfl⟩
 have hzn5:w.heap.size≤n5:=by have:=hB.size; omega
 refine SX.list_box 0 n5 [(.I c.params),(.slice A1 c.blocks.length k1),(.slice A2 c.contexts.length k2),(.slice A3 c.objects.length k3)] 26 ((.e 1 (.P n5))::[(.e 0 (.agg #[.I c.params,.slice A1 c.blocks.length k1,.slice A2 c.contexts.length k2,.slice A3 c.objects.length k3]))]) [(⟨n5,0,none⟩,(.I c.params)),(⟨n5,1,none⟩,(.slice A1 c.blocks.length k1)),(⟨n5,2,none⟩,(.slice A2 c.contexts.length k2)),(⟨n5,3,none⟩,(.slice A3 c.objects.length k3))] hR hM hn5 (by kernel_rfl) (by kernel_rfl) ?_
 clear hR hM; intro a2 w3 hR hb4 hM hkn5 hln5
 replace hB:=hB.tr hb4
 replace hR:SX.RSt 22 [] [(.e 1 (.P n5))] a2:=hR.keep (ts:=[1]) (by kernel_rfl)
 refine SX.list_q0 (κ:=[]) 1 1 [.ld []] [1] [(.e 1 (.P n5))] hR hM (by kernel_rfl) (by kernel_rfl) ?_
 clear hR hM; intro a6 w7 hR hb8 hM
 replace hB:=hB.tr hb8
 replace hkn5:=SX.blk_below hkn5 hb8
 refine SX.list_end 2 (by kernel_rfl) ?_
 refine hK1 _ _ ?_
 obtain ⟨x,hx⟩:=get_of_lt (l:=c.blocks) (k:=0) (by omega)
 obtain ⟨bbx,box,hAx,B1x,j1x,B2x,j2x,B3x,j3x,B4x,j4x,hsx,hblx,cb0x,cb1x,cb2x,cb3x,cb4x,cb5x,cb6x,cb7x,cb8x,cb9x⟩:=h0.2.1.elem hx
 subst hAx; unfold Shape at hsx
 have hox:bbx<w.heap.size:=World.block_lt_of_cell? w _ cb0x
 replace hM:=(SX.cells_add (cell_below hB cb0x) (SX.cells_add (cell_below hB cb1x) (SX.cells_add (cell_below hB cb2x) (SX.cells_add (cell_below hB cb3x) (SX.cells_add (cell_below hB cb4x) (SX.cells_add (cell_below hB cb5x) (SX.cells_add (cell_below hB cb6x) (SX.cells_add (cell_below hB cb7x) (SX.cells_add (cell_below hB cb8x) (SX.cells_add (cell_below hB cb9x) hM))))))))))
 refine SX.qf [(3,(P.within c.params 4)),(9,((P.within c.params 4)&&decide (0<(c.blocks.length:Int))))] [.ld [],.ld [10],.cl (.bool (P.within c.params 4)),.ld [],.ld [],.ld [11],.ld [],.ld [],.pk,.ld [],.ld [],.ld [11],.ix ⟨bbx,box+0*10,none⟩,.ld [],.ld [0],.ld [],.ld [10],.ld [],.pk,.ld []] [2] [(.e 2 (.bool (((P.within c.params 4)&&decide (0<(c.blocks.length:Int)))&&(x.params==c.params))))] [([(9,true)],⟨bbx,box,none⟩,c.blocks.length,0,10,⟨bbx,box+0*10,none⟩)] [] [([],84,#[(.I c.params),(.I 4)],(.bool (P.within c.params 4)))] [] hR hM hB mix ⟨fun hg=>SX.ix_ok (k:=0) (by omega),trivial⟩ trivial (fun w' hb' hM'=>trivial) (fun w' hb' hM'=>⟨fun hg=>SX.pureC (within_any _ _ _),trivial⟩) fun a9 w10 hR hb11 hB hM=>?_
 replace hkn5:=SX.blk_below hkn5 hb11
 refine wp_ret ?_
 try simp only [Exit.then,Exit.inBlock,Nat.reduceEqDiff,↓reduceIte]
 refine SX.ret_ 2 (.bool (((P.within c.params 4)&&decide (0<(c.blocks.length:Int)))&&(x.params==c.params))) Try.results81 hR (by kernel_rfl) ?_
 clear hR hM mix hK1 hzn5 hb4 hkn5 hln5 hn5 hb8 hb11
 refine ⟨ret_bool ?_,hB⟩
 unfold P.rightHead
 rw [show R.paramsAt c 0=x.params from params_at (i:=0) hx]
 simp

set_option maxHeartbeats 400000 in
theorem rightHead_nil (c:CodeD) (v1 v2 v3:Value) (w:World) (h:CodeAt w v1 v2 v3 c) (hne:c.blocks.length=0):Calls Try.prog 81 #[(.agg #[.I c.params,v1,v2,v3])] w fun e w'=>e=.returned (.bool (P.rightHead c))∧Below w.heap.size w w':=by
 have h0:=h
 obtain ⟨A1,k1,rfl,s1⟩:=h.2.1.shape
 obtain ⟨A2,k2,rfl,s2⟩:=h.2.2.1.shape
 obtain ⟨A3,k3,rfl,s3⟩:=h.2.2.2.shape
 unfold Shape at s1 s2 s3
 have mix:=mixed
 have hB:Below w.heap.size w w:=Below.refl _ _
 have hM:SX.Cells w []:=SX.cells_nil
 refine SX.enter [(.agg #[.I c.params,.slice A1 c.blocks.length k1,.slice A2 c.contexts.length k2,.slice A3 c.objects.length k3])] 22 Try.func81 rfl rfl (by kernel_rfl) ?_
 intro a hR
 refine wp_seq_k fun K1 hK1=>?_
 refine SX.region_l ?_
 obtain ⟨n5,hn5⟩:∃ n,w.heap.size=n:=⟨_,rfl⟩
 have hzn5:w.heap.size≤n5:=by have:=hB.size; omega
 refine SX.list_box 0 n5 [(.I c.params),(.slice A1 c.blocks.length k1),(.slice A2 c.contexts.length k2),(.slice A3 c.objects.length k3)] 26 ((.e 1 (.P n5))::[(.e 0 (.agg #[.I c.params,.slice A1 c.blocks.length k1,.slice A2 c.contexts.length k2,.slice A3 c.objects.length k3]))]) [(⟨n5,0,none⟩,(.I c.params)),(⟨n5,1,none⟩,(.slice A1 c.blocks.length k1)),(⟨n5,2,none⟩,(.slice A2 c.contexts.length k2)),(⟨n5,3,none⟩,(.slice A3 c.objects.length k3))] hR hM hn5 (by kernel_rfl) (by kernel_rfl) ?_
 clear hR hM; intro a2 w3 hR hb4 hM hkn5 hln5
 replace hB:=hB.tr hb4
 replace hR:SX.RSt 22 [] [(.e 1 (.P n5))] a2:=hR.keep (ts:=[1]) (by kernel_rfl)
 refine SX.list_q0 (κ:=[]) 1 1 [.ld []] [1] [(.e 1 (.P n5))] hR hM (by kernel_rfl) (by kernel_rfl) ?_
 clear hR hM; intro a6 w7 hR hb8 hM
 replace hB:=hB.tr hb8
 replace hkn5:=SX.blk_below hkn5 hb8
 refine SX.list_end 2 (by kernel_rfl) ?_
 refine hK1 _ _ ?_
 refine SX.qf [(3,(P.within c.params 4)),(9,((P.within c.params 4)&&decide (0<(c.blocks.length:Int))))] [.ld [],.ld [0],.cl (.bool (P.within c.params 4)),.ld [],.ld [],.ld [1],.ld [],.ld [],.pk,.ld [],.ld [],.ld [1],.hd (.P 0),.ld [],.hd (.I 0),.ld [],.ld [0],.ld [],.pk,.ld []] [2] [(.e 2 (.bool (((P.within c.params 4)&&decide (0<(c.blocks.length:Int)))&&(0==c.params))))] [] [([(9,true)],ixS 22 (.slice A1 c.blocks.length k1) (.I 0),(.P 0)),([(9,true)],ldS 3 (.P 0),(.I 0))] [([],84,#[(.I c.params),(.I 4)],(.bool (P.within c.params 4)))] [] hR hM hB mix trivial trivial (fun w' hb' hM'=>⟨fun hg=>absurd hg (by simp [SX.pv,SX.kv,hne]),fun hg=>absurd hg (by simp [SX.pv,SX.kv,hne]),trivial⟩) (fun w' hb' hM'=>⟨fun hg=>SX.pureC (within_any _ _ _),trivial⟩) fun a9 w10 hR hb11 hB hM=>?_
 replace hkn5:=SX.blk_below hkn5 hb11
 refine wp_ret ?_
 try simp only [Exit.then,Exit.inBlock,Nat.reduceEqDiff,↓reduceIte]
 refine SX.ret_ 2 (.bool (((P.within c.params 4)&&decide (0<(c.blocks.length:Int)))&&(0==c.params))) Try.results81 hR (by kernel_rfl) ?_
 clear hR hM mix hK1 hzn5 hb4 hkn5 hln5 hn5 hb8 hb11
 refine ⟨ret_bool ?_,hB⟩
 unfold P.rightHead
 simp [hne]

theorem rightHead_any (c:CodeD) (v1 v2 v3:Value) (w:World) (h:CodeAt w v1 v2 v3 c):Calls Try.prog 81 #[(.agg #[.I c.params,v1,v2,v3])] w fun e w'=>e=.returned (.bool (P.rightHead c))∧Below w.heap.size w w':=by
 rcases Nat.eq_zero_or_pos c.blocks.length with hne | hne
 ·exact rightHead_nil c v1 v2 v3 w h hne
 ·exact rightHead_cons c v1 v2 v3 w h hne

set_option maxHeartbeats 400000 in
theorem scAll_any (n:Int) (w:World) (u:Value) (xs:List Int) (hxs:IntsAt w u xs) (ps:Int) (mb:Nat) (D:List (Int × Int)) (hp:0≤ps∧ps≤999) (hD:MapI w mb D):Calls Try.prog 155 #[(.agg #[.I ps,.map (some mb)]),.I n,u] w fun e w'=>e=.returned (.bool (xs.all (fun x=>hasD ps D x n)))∧Below w.heap.size w w':=by
 have hxs0:=hxs
 obtain ⟨Ax,kx,rfl,sx⟩:=hxs.shape
 unfold Shape at sx
 have mix:=mixed
 have hB:Below w.heap.size w w:=Below.refl _ _
 have hM:SX.Cells w []:=SX.cells_nil
 refine SX.enter [(.agg #[.I ps,.map (some mb)]),(.I n),(.slice Ax xs.length kx)] 21 Try.func155 rfl rfl (by kernel_rfl) ?_
 intro a hR
 refine wp_seq_k fun K1 hK1=>?_
 refine SX.region_l ?_
 obtain ⟨n5,hn5⟩:∃ n,w.heap.size=n:=⟨_,rfl⟩
 have hzn5:w.heap.size≤n5:=by have:=hB.size; omega
 refine SX.list_box 0 n5 [(.I ps),(.map (some mb))] 183 ((.e 3 (.P n5))::[(.e 0 (.agg #[.I ps,.map (some mb)])),(.e 1 (.I n)),(.e 2 (.slice Ax xs.length kx))]) [(⟨n5,0,none⟩,(.I ps)),(⟨n5,1,none⟩,(.map (some mb)))] hR hM hn5 (by kernel_rfl) (by kernel_rfl) ?_
 clear hR hM; intro a2 w3 hR hb4 hM hkn5 hln5
 replace hB:=hB.tr hb4
 replace hR:SX.RSt 21 [] [(.e 1 (.I n)),(.e 2 (.slice Ax xs.length kx)),(.e 3 (.P n5))] a2:=hR.keep (ts:=[1,2,3]) (by kernel_rfl)
 refine SX.list_q0 (κ:=[]) 1 1 [.ld []] [1,2,3] [(.e 1 (.I n)),(.e 2 (.slice Ax xs.length kx)),(.e 3 (.P n5))] hR hM (by kernel_rfl) (by kernel_rfl) ?_
 clear hR hM; intro a6 w7 hR hb8 hM
 replace hB:=hB.tr hb8
 replace hkn5:=SX.blk_below hkn5 hb8
 refine SX.list_end 2 (by kernel_rfl) ?_
 refine hK1 _ _ ?_
 refine wp_seq_k fun K9 hK9=>?_
 refine SX.qs [.ld [],.ld [],.ld []] [1,3,9,10,11] [(.e 9 (.slice Ax xs.length kx)),(.e 10 (.I (xs.length:Int))),(.e 11 (.I 0))] hR hM hB mix fun a10 w11 hR hb12 hB hM=>?_
 replace hkn5:=SX.blk_below hkn5 hb12
 refine wp_block ?_
 refine wp_loop_ghost (fun m15 a' w'=>∃ k:Nat,m15=xs.length-k∧k≤xs.length∧SX.RSt 21 [] [(.e 1 (.I n)),(.e 3 (.P n5)),(.e 9 (.slice Ax xs.length kx)),(.e 10 (.I (xs.length:Int))),(.e 11 (.I (k:Int)))] a'∧Below w.heap.size w w'∧SX.Cells w' [(⟨n5,0,none⟩,(.I ps)),(⟨n5,1,none⟩,(.map (some mb)))]∧Upto xs (fun _ x=>hasD ps D x n) k) (xs.length-0) ⟨0,rfl,Nat.zero_le _,hR.keep (ts:=[1,3,9,10,11]) (by kernel_rfl),hB,hM,Upto.zero⟩ ?_
 clear hR hM hB
 rintro m15 a13 w14 ⟨k,hm15,hlek,hR,hB,hM,hIk⟩
 refine SX.qs [.ld []] [1,3,9,10,11,12] [(.e 12 (.bool (decide ((k:Int)<(xs.length:Int)))))] hR hM hB mix fun a16 w17 hR hb18 hB hM=>?_
 refine wp_seq_k fun K19 hK19=>?_
 refine SX.cond_ (decide ((k:Int)<(xs.length:Int))) hR (by kernel_rfl) (fun h20=>?_) (fun h20=>?_)
 ·skip
  refine wp_skip ?_
  refine hK19 _ _ ?_
  refine wp_seq_k fun K21 hK21=>?_
  refine wp_block ?_
  have hlt:k<xs.length:=lt_of_dec h20
  obtain ⟨x,hx⟩:=get_of_lt hlt
  obtain ⟨ibx,iox,hAx,hix,cix⟩:=hxs0.elem hx
  subst hAx
  have hox:ibx<w.heap.size:=World.block_lt_of_cell? w _ cix
  replace hM:=(SX.cells_add (cell_below hB cix) hM)
  refine SX.qf [] [.ix ⟨ibx,iox+k*1,none⟩,.ld [0],.ld []] [1,3,8,9,10,11] [(.e 8 (.I x))] [([],⟨ibx,iox,none⟩,xs.length,(k:Int),1,⟨ibx,iox+k*1,none⟩)] [] [] [] hR hM hB mix ⟨fun hg=>SX.ix_ok (by omega),trivial⟩ trivial (fun w' hb' hM'=>trivial) (fun w' hb' hM'=>trivial) fun a22 w23 hR hb24 hB hM=>?_
  refine SX.qf [] [.ld [1,2],.ld [],.ld [],.cl (.bool (hasD ps D x n)),.ld []] [1,3,9,10,11,19] [(.e 19 (.bool (!(hasD ps D x n))))] [] [] [([],154,#[(.agg #[.I ps,.map (some mb)]),(.I x),(.I n)],(.bool (hasD ps D x n)))] [] hR hM hB mix trivial trivial (fun w' hb' hM'=>trivial) (fun w' hb' hM'=>⟨fun hg=>sc_has _ _ _ _ _ _ hp (hD.below (hB.tr hb')),trivial⟩) fun a25 w26 hR hb27 hB hM=>?_
  refine SX.cond_ (!(hasD ps D x n)) hR (by kernel_rfl) (fun h28=>?_) (fun h28=>?_)
  ·skip
   refine SX.qs [.ld []] [1,3,6,9,10,11] [(.e 6 (.bool false))] hR hM hB mix fun a29 w30 hR hb31 hB hM=>?_
   refine wp_ret ?_
   try simp only [Exit.then,Exit.inBlock,Nat.reduceEqDiff,↓reduceIte]
   refine SX.ret_ 6 (.bool false) Try.results155 hR (by kernel_rfl) ?_
   clear hR hM mix hK1 hzn5 hb4 hkn5 hln5 hn5 hb8 hK9 hb12 hm15 hb18 hK19 hK21 hb24 hb27 hb31
   refine ⟨ret_bool ?_,hB⟩
   exact all_no hx (by simpa using h28)
  ·skip
   refine wp_skip ?_
   refine hK21 _ _ ?_
   refine SX.qf0 [] [.nm (.I ((k+1:Nat):Int)),.ld []] [1,3,9,10,11] [(.e 11 (.I ((k+1:Nat):Int)))] [] [] [] [([],(.I (IntKind.i64.wrap ((k:Int)+1))),(.I ((k+1:Nat):Int)))] hR hM hB mix trivial ⟨fun hg=>SX.wrap_ok (by omega),trivial⟩ (fun w' hb' hM'=>trivial) (fun w' hb' hM'=>trivial) fun a32 w33 hR hb34 hB hM=>?_
   exact ⟨xs.length-(k+1),by omega,k+1,rfl,by omega,hR.keep (ts:=[1,3,9,10,11]) (by kernel_rfl),hB,SX.cells_sub hM [1,2] (by kernel_rfl),hIk.step hx (by simpa using h28)⟩
 ·skip
  refine wp_exit ?_
  refine hK9 _ _ ?_
  refine SX.qs [.ld []] [1,3,6,9,10,11] [(.e 6 (.bool true))] hR hM hB mix fun a35 w36 hR hb37 hB hM=>?_
  refine wp_ret ?_
  try simp only [Exit.then,Exit.inBlock,Nat.reduceEqDiff,↓reduceIte]
  refine SX.ret_ 6 (.bool true) Try.results155 hR (by kernel_rfl) ?_
  clear hR hM mix hK1 hzn5 hb4 hkn5 hln5 hn5 hb8 hK9 hb12 hm15 hb18 hK19 hb37
  refine ⟨ret_bool ?_,hB⟩
  exact hIk.all (le_of_dec h20)
end Go.Proofs.Ytlkcidmmpeebeaa

/- Proved: edge,Ops -/
namespace Go.Proofs.Ytlkcidmmpeebeaa
open Go.RowKit
set_option maxRecDepth 100000
set_option maxHeartbeats 400000 in
theorem edge_in (c:CodeD) (v1 v2 v3:Value) (w:World) (h:CodeAt w v1 v2 v3 c) (blk more:Int) (u ua:Value) (args all:List Int) (hu:IntsAt w u args) (hal:IntsAt w ua all) (hmo:0≤more∧more≤1) (hb0:0≤blk∧blk<(c.blocks.length:Int)):Calls Try.prog 92 #[(.agg #[.I c.params,v1,v2,v3]),.agg #[.I blk,u],ua,.I more] w fun e w'=>e=.returned (.bool (R.edge c blk args all more))∧Below w.heap.size w w':=by
 have h0:=h
 obtain ⟨A1,k1,rfl,s1⟩:=h.2.1.shape
 obtain ⟨A2,k2,rfl,s2⟩:=h.2.2.1.shape
 obtain ⟨A3,k3,rfl,s3⟩:=h.2.2.2.shape
 unfold Shape at s1 s2 s3
 have hu0:=hu
 have hal0:=hal
 obtain ⟨Au,ku,rfl,su⟩:=hu.shape
 unfold Shape at su
 obtain ⟨Al,ka,rfl,sa⟩:=hal.shape
 have mix:=mixed
 have hB:Below w.heap.size w w:=Below.refl _ _
 have hM:SX.Cells w []:=SX.cells_nil
 refine SX.enter [(.agg #[.I c.params,.slice A1 c.blocks.length k1,.slice A2 c.contexts.length k2,.slice A3 c.objects.length k3]),(.agg #[.I blk,.slice Au args.length ku]),(.slice Al all.length ka),(.I more)] 49 Try.func92 rfl rfl (by kernel_rfl) ?_
 intro a hR
 refine wp_seq_k fun K1 hK1=>?_
 refine SX.region_l ?_
 obtain ⟨n5,hn5⟩:∃ n,w.heap.size=n:=⟨_,rfl⟩
 have hzn5:w.heap.size≤n5:=by have:=hB.size; omega
 refine SX.list_box 0 n5 [(.I c.params),(.slice A1 c.blocks.length k1),(.slice A2 c.contexts.length k2),(.slice A3 c.objects.length k3)] 26 ((.e 4 (.P n5))::[(.e 0 (.agg #[.I c.params,.slice A1 c.blocks.length k1,.slice A2 c.contexts.length k2,.slice A3 c.objects.length k3])),(.e 1 (.agg #[.I blk,.slice Au args.length ku])),(.e 2 (.slice Al all.length ka)),(.e 3 (.I more))]) [(⟨n5,0,none⟩,(.I c.params)),(⟨n5,1,none⟩,(.slice A1 c.blocks.length k1)),(⟨n5,2,none⟩,(.slice A2 c.contexts.length k2)),(⟨n5,3,none⟩,(.slice A3 c.objects.length k3))] hR hM hn5 (by kernel_rfl) (by kernel_rfl) ?_
 clear hR hM; intro a2 w3 hR hb4 hM hkn5 hln5
 replace hB:=hB.tr hb4
 replace hR:SX.RSt 49 [] [(.e 1 (.agg #[.I blk,.slice Au args.length ku])),(.e 2 (.slice Al all.length ka)),(.e 3 (.I more)),(.e 4 (.P n5))] a2:=hR.keep (ts:=[1,2,3,4]) (by kernel_rfl)
 obtain ⟨n9,hn9⟩:∃ n,w3.heap.size=n:=⟨_,rfl⟩
 have hzn9:w.heap.size≤n9:=by have:=hB.size; omega
 have qn5n9:n5<n9:=by have:=(Array.getElem?_eq_some_iff.1 hkn5).1; omega
 refine SX.list_box 1 n9 [(.I blk),(.slice Au args.length ku)] 57 ((.e 5 (.P n9))::[(.e 1 (.agg #[.I blk,.slice Au args.length ku])),(.e 2 (.slice Al all.length ka)),(.e 3 (.I more)),(.e 4 (.P n5))]) [(⟨n9,0,none⟩,(.I blk)),(⟨n9,1,none⟩,(.slice Au args.length ku)),(⟨n5,0,none⟩,(.I c.params)),(⟨n5,1,none⟩,(.slice A1 c.blocks.length k1)),(⟨n5,2,none⟩,(.slice A2 c.contexts.length k2)),(⟨n5,3,none⟩,(.slice A3 c.objects.length k3))] hR hM hn9 (by kernel_rfl) (by kernel_rfl) ?_
 clear hR hM; intro a6 w7 hR hb8 hM hkn9 hln9
 replace hB:=hB.tr hb8
 replace hkn5:=SX.blk_below hkn5 hb8
 replace hR:SX.RSt 49 [] [(.e 2 (.slice Al all.length ka)),(.e 3 (.I more)),(.e 4 (.P n5)),(.e 5 (.P n9))] a6:=hR.keep (ts:=[2,3,4,5]) (by kernel_rfl)
 refine SX.list_q0 (κ:=[]) 2 1 [.ld []] [2,3,4,5] [(.e 2 (.slice Al all.length ka)),(.e 3 (.I more)),(.e 4 (.P n5)),(.e 5 (.P n9))] hR hM (by kernel_rfl) (by kernel_rfl) ?_
 clear hR hM; intro a10 w11 hR hb12 hM
 replace hB:=hB.tr hb12
 replace hkn5:=SX.blk_below hkn5 hb12
 replace hkn9:=SX.blk_below hkn9 hb12
 refine SX.list_end 3 (by kernel_rfl) ?_
 refine hK1 _ _ ?_
 refine wp_seq_k fun K13 hK13=>?_
 obtain ⟨x,hx⟩:=get_of_lt (l:=c.blocks) (k:=blk.toNat) (by omega)
 obtain ⟨bbx,box,hAx,B1x,j1x,B2x,j2x,B3x,j3x,B4x,j4x,hsx,hblx,cb0x,cb1x,cb2x,cb3x,cb4x,cb5x,cb6x,cb7x,cb8x,cb9x⟩:=h0.2.1.elem hx
 subst hAx; unfold Shape at hsx
 have hox:bbx<w.heap.size:=World.block_lt_of_cell? w _ cb0x
 replace hM:=(SX.cells_add (cell_below hB cb0x) (SX.cells_add (cell_below hB cb1x) (SX.cells_add (cell_below hB cb2x) (SX.cells_add (cell_below hB cb3x) (SX.cells_add (cell_below hB cb4x) (SX.cells_add (cell_below hB cb5x) (SX.cells_add (cell_below hB cb6x) (SX.cells_add (cell_below hB cb7x) (SX.cells_add (cell_below hB cb8x) (SX.cells_add (cell_below hB cb9x) hM))))))))))
 refine SX.qf [(3,decide (blk<1)),(11,(decide (blk<1)||decide ((c.blocks.length:Int)≤blk)))] [.ld [],.ld [10],.ld [],.ld [],.ld [],.ld [10],.ld [],.ld [13],.ld [],.ld [],.pk,.ld [],.ld [],.ld [11],.ld [],.ld [],.nm (.I ((args.length:Int)+more)),.ld [],.ld [13],.ld [],.ld [10],.ix ⟨bbx,box+blk.toNat*10,none⟩,.ld [],.ld [0],.ld [],.pk] [2,5,36] [(.e 36 (.bool ((decide (blk<1)||decide ((c.blocks.length:Int)≤blk))||((args.length:Int)+more != x.params))))] [([(11,false)],⟨bbx,box,none⟩,c.blocks.length,blk,10,⟨bbx,box+blk.toNat*10,none⟩)] [] [] [([(11,false)],(.I (IntKind.i64.wrap ((args.length:Int)+more))),(.I ((args.length:Int)+more)))] hR hM hB mix ⟨fun hg=>ix_int hb0.1 hb0.2,trivial⟩ ⟨fun hg=>SX.wrap_ok (by omega),trivial⟩ (fun w' hb' hM'=>trivial) (fun w' hb' hM'=>trivial) fun a14 w15 hR hb16 hB hM=>?_
 replace hkn5:=SX.blk_below hkn5 hb16
 replace hkn9:=SX.blk_below hkn9 hb16
 refine SX.cond_ ((decide (blk<1)||decide ((c.blocks.length:Int)≤blk))||((args.length:Int)+more != x.params)) hR (by kernel_rfl) (fun h17=>?_) (fun h17=>?_)
 ·skip
  refine SX.qs [.ld []] [8] [(.e 8 (.bool false))] hR hM hB mix fun a18 w19 hR hb20 hB hM=>?_
  replace hkn5:=SX.blk_below hkn5 hb20
  replace hkn9:=SX.blk_below hkn9 hb20
  refine wp_ret ?_
  try simp only [Exit.then,Exit.inBlock,Nat.reduceEqDiff,↓reduceIte]
  refine SX.ret_ 8 (.bool false) Try.results92 hR (by kernel_rfl) ?_
  clear hR hM mix hK1 hzn5 hb4 hkn5 hln5 hn5 hzn9 qn5n9 hb8 hkn9 hln9 hn9 hb12 hK13 hb16 hb20
  refine ⟨ret_bool ?_,hB⟩
  unfold R.edge
  rw [params_at hx]
  simp only [h17,Bool.false_eq_true,↓reduceIte]
 ·skip
  refine wp_skip ?_
  refine hK13 _ _ ?_
  refine wp_seq_k fun K21 hK21=>?_
  refine SX.qs [.ld [],.ld [11],.ld [],.ld []] [2,38,39,40] [(.e 38 (.slice Au args.length ku)),(.e 39 (.I (args.length:Int))),(.e 40 (.I 0))] hR hM hB mix fun a22 w23 hR hb24 hB hM=>?_
  replace hkn5:=SX.blk_below hkn5 hb24
  replace hkn9:=SX.blk_below hkn9 hb24
  refine wp_block ?_
  refine wp_loop_ghost (fun m27 a' w'=>∃ k:Nat,m27=args.length-k∧k≤args.length∧SX.RSt 49 [] [(.e 2 (.slice Al all.length ka)),(.e 38 (.slice Au args.length ku)),(.e 39 (.I (args.length:Int))),(.e 40 (.I (k:Int)))] a'∧Below w.heap.size w w'∧SX.Cells w' [(⟨bbx,box+blk.toNat*10,none⟩,(.I x.params)),(⟨bbx,box+blk.toNat*10+1,none⟩,(.slice B1x x.ops.length j1x)),(⟨bbx,box+blk.toNat*10+2,none⟩,(.I x.term.kind)),(⟨bbx,box+blk.toNat*10+3,none⟩,(.I x.term.a)),(⟨bbx,box+blk.toNat*10+4,none⟩,(.I x.term.n)),(⟨bbx,box+blk.toNat*10+5,none⟩,(.slice B2x x.term.args.length j2x)),(⟨bbx,box+blk.toNat*10+6,none⟩,(.I x.term.b0)),(⟨bbx,box+blk.toNat*10+7,none⟩,(.slice B3x x.term.args0.length j3x)),(⟨bbx,box+blk.toNat*10+8,none⟩,(.I x.term.b1)),(⟨bbx,box+blk.toNat*10+9,none⟩,(.slice B4x x.term.args1.length j4x)),(⟨n9,0,none⟩,(.I blk)),(⟨n9,1,none⟩,(.slice Au args.length ku)),(⟨n5,0,none⟩,(.I c.params)),(⟨n5,1,none⟩,(.slice (some ⟨bbx,box,none⟩) c.blocks.length k1)),(⟨n5,2,none⟩,(.slice A2 c.contexts.length k2)),(⟨n5,3,none⟩,(.slice A3 c.objects.length k3))]∧Upto args (fun _ x=>R.has all x) k) (args.length-0) ⟨0,rfl,Nat.zero_le _,hR.keep (ts:=[2,38,39,40]) (by kernel_rfl),hB,hM,Upto.zero⟩ ?_
  clear hR hM hB
  rintro m27 a25 w26 ⟨k,hm27,hlek,hR,hB,hM,hIk⟩
  refine SX.qs [.ld []] [2,38,39,40,41] [(.e 41 (.bool (decide ((k:Int)<(args.length:Int)))))] hR hM hB mix fun a28 w29 hR hb30 hB hM=>?_
  refine wp_seq_k fun K31 hK31=>?_
  refine SX.cond_ (decide ((k:Int)<(args.length:Int))) hR (by kernel_rfl) (fun h32=>?_) (fun h32=>?_)
  ·skip
   refine wp_skip ?_
   refine hK31 _ _ ?_
   refine wp_seq_k fun K33 hK33=>?_
   refine wp_block ?_
   have hlt:k<args.length:=lt_of_dec h32
   obtain ⟨y,hy⟩:=get_of_lt hlt
   obtain ⟨iby,ioy,hAy,hiy,ciy⟩:=hu0.elem hy
   subst hAy
   have hoy:iby<w.heap.size:=World.block_lt_of_cell? w _ ciy
   replace hM:=(SX.cells_add (cell_below hB ciy) hM)
   refine SX.qf [] [.ix ⟨iby,ioy+k*1,none⟩,.ld [0],.ld []] [2,10,38,39,40] [(.e 10 (.I y))] [([],⟨iby,ioy,none⟩,args.length,(k:Int),1,⟨iby,ioy+k*1,none⟩)] [] [] [] hR hM hB mix ⟨fun hg=>SX.ix_ok (by omega),trivial⟩ trivial (fun w' hb' hM'=>trivial) (fun w' hb' hM'=>trivial) fun a34 w35 hR hb36 hB hM=>?_
   refine SX.qf [] [.ld [],.ld [],.cl (.bool (R.has all y)),.ld []] [2,38,39,40,47] [(.e 47 (.bool (!(R.has all y))))] [] [] [([],71,#[(.slice Al all.length ka),(.I y)],(.bool (R.has all y)))] [] hR hM hB mix trivial trivial (fun w' hb' hM'=>trivial) (fun w' hb' hM'=>⟨fun hg=>SX.pureC (has_any _ all _ _ (hal0.below (hB.tr hb'))),trivial⟩) fun a37 w38 hR hb39 hB hM=>?_
   refine SX.cond_ (!(R.has all y)) hR (by kernel_rfl) (fun h40=>?_) (fun h40=>?_)
   ·skip
    refine SX.qs [.ld []] [2,8,38,39,40] [(.e 8 (.bool false))] hR hM hB mix fun a41 w42 hR hb43 hB hM=>?_
    refine wp_ret ?_
    try simp only [Exit.then,Exit.inBlock,Nat.reduceEqDiff,↓reduceIte]
    refine SX.ret_ 8 (.bool false) Try.results92 hR (by kernel_rfl) ?_
    clear hR hM mix hK1 hzn5 hb4 hkn5 hln5 hn5 hzn9 qn5n9 hb8 hkn9 hln9 hn9 hb12 hK13 hb16 hK21 hb24 hm27 hb30 hK31 hK33 hb36 hb39 hb43
    refine ⟨ret_bool ?_,hB⟩
    unfold R.edge
    rw [params_at hx]
    simp only [h17,Bool.false_eq_true,↓reduceIte]
    exact all_no hy (by simpa using h40)
   ·skip
    refine wp_skip ?_
    refine hK33 _ _ ?_
    refine SX.qf0 [] [.nm (.I ((k+1:Nat):Int)),.ld []] [2,38,39,40] [(.e 40 (.I ((k+1:Nat):Int)))] [] [] [] [([],(.I (IntKind.i64.wrap ((k:Int)+1))),(.I ((k+1:Nat):Int)))] hR hM hB mix trivial ⟨fun hg=>SX.wrap_ok (by omega),trivial⟩ (fun w' hb' hM'=>trivial) (fun w' hb' hM'=>trivial) fun a44 w45 hR hb46 hB hM=>?_
    exact ⟨args.length-(k+1),by omega,k+1,rfl,by omega,hR.keep (ts:=[2,38,39,40]) (by kernel_rfl),hB,SX.cells_sub hM [1,2,3,4,5,6,7,8,9,10,11,12,13,14,15,16] (by kernel_rfl),hIk.step hy (by simpa using h40)⟩
  ·skip
   refine wp_exit ?_
   refine hK21 _ _ ?_
   refine SX.qs [.ld []] [2,8,38,39,40] [(.e 8 (.bool true))] hR hM hB mix fun a47 w48 hR hb49 hB hM=>?_
   refine wp_ret ?_
   try simp only [Exit.then,Exit.inBlock,Nat.reduceEqDiff,↓reduceIte]
   refine SX.ret_ 8 (.bool true) Try.results92 hR (by kernel_rfl) ?_
   clear hR hM mix hK1 hzn5 hb4 hkn5 hln5 hn5 hzn9 qn5n9 hb8 hkn9 hln9 hn9 hb12 hK13 hb16 hK21 hb24 hm27 hb30 hK31 hb49
   refine ⟨ret_bool ?_,hB⟩
   unfold R.edge
   rw [params_at hx]
   simp only [h17,Bool.false_eq_true,↓reduceIte]
   exact hIk.all (le_of_dec h32)

set_option maxHeartbeats 400000 in
theorem edge_out (c:CodeD) (v1 v2 v3:Value) (w:World) (h:CodeAt w v1 v2 v3 c) (blk more:Int) (u ua:Value) (args all:List Int) (hu:IntsAt w u args) (hal:IntsAt w ua all) (hmo:0≤more∧more≤1) (hout:(decide (blk<1)||decide ((c.blocks.length:Int)≤blk))=true):Calls Try.prog 92 #[(.agg #[.I c.params,v1,v2,v3]),.agg #[.I blk,u],ua,.I more] w fun e w'=>e=.returned (.bool (R.edge c blk args all more))∧Below w.heap.size w w':=by
 have h0:=h
 obtain ⟨A1,k1,rfl,s1⟩:=h.2.1.shape
 obtain ⟨A2,k2,rfl,s2⟩:=h.2.2.1.shape
 obtain ⟨A3,k3,rfl,s3⟩:=h.2.2.2.shape
 unfold Shape at s1 s2 s3
 have hu0:=hu
 have hal0:=hal
 obtain ⟨Au,ku,rfl,su⟩:=hu.shape
 unfold Shape at su
 obtain ⟨Al,ka,rfl,sa⟩:=hal.shape
 have mix:=mixed
 have hB:Below w.heap.size w w:=Below.refl _ _
 have hM:SX.Cells w []:=SX.cells_nil
 refine SX.enter [(.agg #[.I c.params,.slice A1 c.blocks.length k1,.slice A2 c.contexts.length k2,.slice A3 c.objects.length k3]),(.agg #[.I blk,.slice Au args.length ku]),(.slice Al all.length ka),(.I more)] 49 Try.func92 rfl rfl (by kernel_rfl) ?_
 intro a hR
 refine wp_seq_k fun K1 hK1=>?_
 refine SX.region_l ?_
 obtain ⟨n5,hn5⟩:∃ n,w.heap.size=n:=⟨_,rfl⟩
 have hzn5:w.heap.size≤n5:=by have:=hB.size; omega
 refine SX.list_box 0 n5 [(.I c.params),(.slice A1 c.blocks.length k1),(.slice A2 c.contexts.length k2),(.slice A3 c.objects.length k3)] 26 ((.e 4 (.P n5))::[(.e 0 (.agg #[.I c.params,.slice A1 c.blocks.length k1,.slice A2 c.contexts.length k2,.slice A3 c.objects.length k3])),(.e 1 (.agg #[.I blk,.slice Au args.length ku])),(.e 2 (.slice Al all.length ka)),(.e 3 (.I more))]) [(⟨n5,0,none⟩,(.I c.params)),(⟨n5,1,none⟩,(.slice A1 c.blocks.length k1)),(⟨n5,2,none⟩,(.slice A2 c.contexts.length k2)),(⟨n5,3,none⟩,(.slice A3 c.objects.length k3))] hR hM hn5 (by kernel_rfl) (by kernel_rfl) ?_
 clear hR hM; intro a2 w3 hR hb4 hM hkn5 hln5
 replace hB:=hB.tr hb4
 replace hR:SX.RSt 49 [] [(.e 1 (.agg #[.I blk,.slice Au args.length ku])),(.e 2 (.slice Al all.length ka)),(.e 3 (.I more)),(.e 4 (.P n5))] a2:=hR.keep (ts:=[1,2,3,4]) (by kernel_rfl)
 obtain ⟨n9,hn9⟩:∃ n,w3.heap.size=n:=⟨_,rfl⟩
 have hzn9:w.heap.size≤n9:=by have:=hB.size; omega
 have qn5n9:n5<n9:=by have:=(Array.getElem?_eq_some_iff.1 hkn5).1; omega
 refine SX.list_box 1 n9 [(.I blk),(.slice Au args.length ku)] 57 ((.e 5 (.P n9))::[(.e 1 (.agg #[.I blk,.slice Au args.length ku])),(.e 2 (.slice Al all.length ka)),(.e 3 (.I more)),(.e 4 (.P n5))]) [(⟨n9,0,none⟩,(.I blk)),(⟨n9,1,none⟩,(.slice Au args.length ku)),(⟨n5,0,none⟩,(.I c.params)),(⟨n5,1,none⟩,(.slice A1 c.blocks.length k1)),(⟨n5,2,none⟩,(.slice A2 c.contexts.length k2)),(⟨n5,3,none⟩,(.slice A3 c.objects.length k3))] hR hM hn9 (by kernel_rfl) (by kernel_rfl) ?_
 clear hR hM; intro a6 w7 hR hb8 hM hkn9 hln9
 replace hB:=hB.tr hb8
 replace hkn5:=SX.blk_below hkn5 hb8
 replace hR:SX.RSt 49 [] [(.e 2 (.slice Al all.length ka)),(.e 3 (.I more)),(.e 4 (.P n5)),(.e 5 (.P n9))] a6:=hR.keep (ts:=[2,3,4,5]) (by kernel_rfl)
 refine SX.list_q0 (κ:=[]) 2 1 [.ld []] [2,3,4,5] [(.e 2 (.slice Al all.length ka)),(.e 3 (.I more)),(.e 4 (.P n5)),(.e 5 (.P n9))] hR hM (by kernel_rfl) (by kernel_rfl) ?_
 clear hR hM; intro a10 w11 hR hb12 hM
 replace hB:=hB.tr hb12
 replace hkn5:=SX.blk_below hkn5 hb12
 replace hkn9:=SX.blk_below hkn9 hb12
 refine SX.list_end 3 (by kernel_rfl) ?_
 refine hK1 _ _ ?_
 refine wp_seq_k fun K13 hK13=>?_
 refine SX.qf [(3,decide (blk<1)),(11,(decide (blk<1)||decide ((c.blocks.length:Int)≤blk)))] [.ld [],.ld [0],.ld [],.ld [],.ld [],.ld [0],.ld [],.ld [3],.ld [],.ld [],.pk,.ld [],.ld [],.ld [1],.ld [],.ld [],.nm (.I ((args.length:Int)+more)),.ld [],.ld [3],.ld [],.ld [0],.hd (.P 0),.ld [],.hd (.I 0),.ld [],.pk] [2,5,36] [(.e 36 (.bool ((decide (blk<1)||decide ((c.blocks.length:Int)≤blk))||((args.length:Int)+more != 0))))] [] [([(11,false)],ixS 22 (.slice A1 c.blocks.length k1) (.I blk),(.P 0)),([(11,false)],ldS 3 (.P 0),(.I 0))] [] [([(11,false)],(.I (IntKind.i64.wrap ((args.length:Int)+more))),(.I ((args.length:Int)+more)))] hR hM hB mix trivial ⟨fun hg=>SX.wrap_ok (by omega),trivial⟩ (fun w' hb' hM'=>⟨fun hg=>absurd hg (by simp [SX.pv,SX.kv,hout]),fun hg=>absurd hg (by simp [SX.pv,SX.kv,hout]),trivial⟩) (fun w' hb' hM'=>trivial) fun a14 w15 hR hb16 hB hM=>?_
 replace hkn5:=SX.blk_below hkn5 hb16
 replace hkn9:=SX.blk_below hkn9 hb16
 refine SX.cond_ ((decide (blk<1)||decide ((c.blocks.length:Int)≤blk))||((args.length:Int)+more != 0)) hR (by kernel_rfl) (fun h17=>?_) (fun h17=>?_)
 ·skip
  refine SX.qs [.ld []] [8] [(.e 8 (.bool false))] hR hM hB mix fun a18 w19 hR hb20 hB hM=>?_
  replace hkn5:=SX.blk_below hkn5 hb20
  replace hkn9:=SX.blk_below hkn9 hb20
  refine wp_ret ?_
  try simp only [Exit.then,Exit.inBlock,Nat.reduceEqDiff,↓reduceIte]
  refine SX.ret_ 8 (.bool false) Try.results92 hR (by kernel_rfl) ?_
  clear hR hM mix hK1 hzn5 hb4 hkn5 hln5 hn5 hzn9 qn5n9 hb8 hkn9 hln9 hn9 hb12 hK13 hb16 hb20
  refine ⟨ret_bool ?_,hB⟩
  unfold R.edge
  simp only [hout,Bool.true_or,↓reduceIte]
 ·skip
  exact absurd h17 (by simp [hout])

theorem edge_any (c:CodeD) (v1 v2 v3:Value) (w:World) (h:CodeAt w v1 v2 v3 c) (blk more:Int) (u ua:Value) (args all:List Int) (hu:IntsAt w u args) (hal:IntsAt w ua all) (hmo:0≤more∧more≤1):Calls Try.prog 92 #[(.agg #[.I c.params,v1,v2,v3]),.agg #[.I blk,u],ua,.I more] w fun e w'=>e=.returned (.bool (R.edge c blk args all more))∧Below w.heap.size w w':=by
 cases hout:(decide (blk<1)||decide ((c.blocks.length:Int)≤blk)) with
 | true=>exact edge_out c v1 v2 v3 w h blk more u ua args all hu hal hmo hout
 | false=>exact edge_in c v1 v2 v3 w h blk more u ua args all hu hal hmo (by simp at hout; omega)

set_option maxHeartbeats 400000 in
theorem ops_any (c:CodeD) (v1 v2 v3:Value) (w:World) (h:CodeAt w v1 v2 v3 c):Calls Try.prog 45 #[(.agg #[.I c.params,v1,v2,v3])] w fun e w'=>e=.returned (.I (totW c.blocks))∧Below w.heap.size w w':=by
 have h0:=h
 obtain ⟨A1,k1,rfl,s1⟩:=h.2.1.shape
 obtain ⟨A2,k2,rfl,s2⟩:=h.2.2.1.shape
 obtain ⟨A3,k3,rfl,s3⟩:=h.2.2.2.shape
 unfold Shape at s1 s2 s3
 have mix:=mixed
 have hB:Below w.heap.size w w:=Below.refl _ _
 have hM:SX.Cells w []:=SX.cells_nil
 refine SX.enter [(.agg #[.I c.params,.slice A1 c.blocks.length k1,.slice A2 c.contexts.length k2,.slice A3 c.objects.length k3])] 20 Try.func45 rfl rfl (by kernel_rfl) ?_
 intro a hR
 refine wp_seq_k fun K1 hK1=>?_
 refine SX.region_l ?_
 obtain ⟨n5,hn5⟩:∃ n,w.heap.size=n:=⟨_,rfl⟩
 have hzn5:w.heap.size≤n5:=by have:=hB.size; omega
 refine SX.list_box 0 n5 [(.I c.params),(.slice A1 c.blocks.length k1),(.slice A2 c.contexts.length k2),(.slice A3 c.objects.length k3)] 26 ((.e 1 (.P n5))::[(.e 0 (.agg #[.I c.params,.slice A1 c.blocks.length k1,.slice A2 c.contexts.length k2,.slice A3 c.objects.length k3]))]) [(⟨n5,0,none⟩,(.I c.params)),(⟨n5,1,none⟩,(.slice A1 c.blocks.length k1)),(⟨n5,2,none⟩,(.slice A2 c.contexts.length k2)),(⟨n5,3,none⟩,(.slice A3 c.objects.length k3))] hR hM hn5 (by kernel_rfl) (by kernel_rfl) ?_
 clear hR hM; intro a2 w3 hR hb4 hM hkn5 hln5
 replace hB:=hB.tr hb4
 replace hR:SX.RSt 20 [] [(.e 1 (.P n5))] a2:=hR.keep (ts:=[1]) (by kernel_rfl)
 refine SX.list_q0 (κ:=[]) 1 1 [.ld []] [1] [(.e 1 (.P n5))] hR hM (by kernel_rfl) (by kernel_rfl) ?_
 clear hR hM; intro a6 w7 hR hb8 hM
 replace hB:=hB.tr hb8
 replace hkn5:=SX.blk_below hkn5 hb8
 refine SX.list_end 2 (by kernel_rfl) ?_
 refine hK1 _ _ ?_
 refine SX.qs [.ld []] [1,3] [(.e 3 (.I 0))] hR hM hB mix fun a9 w10 hR hb11 hB hM=>?_
 replace hkn5:=SX.blk_below hkn5 hb11
 refine wp_seq_k fun K12 hK12=>?_
 refine SX.qs [.ld [],.ld [1],.ld [],.ld []] [3,7,8,9] [(.e 7 (.slice A1 c.blocks.length k1)),(.e 8 (.I (c.blocks.length:Int))),(.e 9 (.I 0))] hR hM hB mix fun a13 w14 hR hb15 hB hM=>?_
 replace hkn5:=SX.blk_below hkn5 hb15
 refine wp_block ?_
 refine wp_loop_ghost (fun m18 a' w'=>∃ k:Nat,m18=c.blocks.length-k∧k≤c.blocks.length∧SX.RSt 20 [] [(.e 3 (.I (totW (c.blocks.take (k))))),(.e 7 (.slice A1 c.blocks.length k1)),(.e 8 (.I (c.blocks.length:Int))),(.e 9 (.I (k:Int)))] a'∧Below w.heap.size w w'∧SX.Cells w' [(⟨n5,0,none⟩,(.I c.params)),(⟨n5,1,none⟩,(.slice A1 c.blocks.length k1)),(⟨n5,2,none⟩,(.slice A2 c.contexts.length k2)),(⟨n5,3,none⟩,(.slice A3 c.objects.length k3))]∧True) (c.blocks.length-0) ⟨0,rfl,Nat.zero_le _,hR.keep (ts:=[3,7,8,9]) (by kernel_rfl),hB,hM,trivial⟩ ?_
 clear hR hM hB
 rintro m18 a16 w17 ⟨k,hm18,hlek,hR,hB,hM,hIk⟩
 refine SX.qs [.ld []] [3,7,8,9,10] [(.e 10 (.bool (decide ((k:Int)<(c.blocks.length:Int)))))] hR hM hB mix fun a19 w20 hR hb21 hB hM=>?_
 refine wp_seq_k fun K22 hK22=>?_
 refine SX.cond_ (decide ((k:Int)<(c.blocks.length:Int))) hR (by kernel_rfl) (fun h23=>?_) (fun h23=>?_)
 ·skip
  refine wp_skip ?_
  refine hK22 _ _ ?_
  refine wp_seq_k fun K24 hK24=>?_
  refine wp_block ?_
  refine wp_seq_k fun K25 hK25=>?_
  have hlt:k<c.blocks.length:=lt_of_dec h23
  obtain ⟨x,hx⟩:=get_of_lt hlt
  obtain ⟨bbx,box,hAx,B1x,j1x,B2x,j2x,B3x,j3x,B4x,j4x,hsx,hblx,cb0x,cb1x,cb2x,cb3x,cb4x,cb5x,cb6x,cb7x,cb8x,cb9x⟩:=h0.2.1.elem hx
  subst hAx; unfold Shape at hsx
  have hox:bbx<w.heap.size:=World.block_lt_of_cell? w _ cb0x
  replace hM:=(SX.cells_add (cell_below hB cb0x) (SX.cells_add (cell_below hB cb1x) (SX.cells_add (cell_below hB cb2x) (SX.cells_add (cell_below hB cb3x) (SX.cells_add (cell_below hB cb4x) (SX.cells_add (cell_below hB cb5x) (SX.cells_add (cell_below hB cb6x) (SX.cells_add (cell_below hB cb7x) (SX.cells_add (cell_below hB cb8x) (SX.cells_add (cell_below hB cb9x) hM))))))))))
  refine SX.region_l ?_
  refine SX.list_q (κ:=[]) 0 2 [.ix ⟨bbx,box+k*10,none⟩,.ld [0,1,2,3,4,5,6,7,8,9]] [3,7,8,9,12] [(.e 3 (.I (totW (c.blocks.take (k))))),(.e 7 (.slice (some ⟨bbx,box,none⟩) c.blocks.length k1)),(.e 8 (.I (c.blocks.length:Int))),(.e 9 (.I (k:Int))),(.e 12 (.agg #[.I x.params,.slice B1x x.ops.length j1x,.I x.term.kind,.I x.term.a,.I x.term.n,.slice B2x x.term.args.length j2x,.I x.term.b0,.slice B3x x.term.args0.length j3x,.I x.term.b1,.slice B4x x.term.args1.length j4x]))] [([],⟨bbx,box,none⟩,c.blocks.length,(k:Int),10,⟨bbx,box+k*10,none⟩)] [] [] [] hR hM (by kernel_rfl) (by kernel_rfl) ⟨fun hg=>SX.ix_ok (by omega),trivial⟩ trivial (fun w' hb' hM'=>trivial) (fun w' hb' hM'=>trivial) ?_
  clear hR hM; intro a26 w27 hR hb28 hM
  replace hB:=hB.tr hb28
  obtain ⟨n32,hn32⟩:∃ n,w27.heap.size=n:=⟨_,rfl⟩
  have hzn32:w.heap.size≤n32:=by have:=hB.size; omega
  refine SX.list_alloc 2 n32 [(.I 0),(.slice none 0 0),(.I 0),(.I 0),(.I 0),(.slice none 0 0),(.I 0),(.slice none 0 0),(.I 0),(.slice none 0 0)] 62 ((.e 5 (.P n32))::[(.e 3 (.I (totW (c.blocks.take (k))))),(.e 7 (.slice (some ⟨bbx,box,none⟩) c.blocks.length k1)),(.e 8 (.I (c.blocks.length:Int))),(.e 9 (.I (k:Int))),(.e 12 (.agg #[.I x.params,.slice B1x x.ops.length j1x,.I x.term.kind,.I x.term.a,.I x.term.n,.slice B2x x.term.args.length j2x,.I x.term.b0,.slice B3x x.term.args0.length j3x,.I x.term.b1,.slice B4x x.term.args1.length j4x]))]) hR hM hn32 (by kernel_rfl) ?_
  clear hR hM; intro a29 w30 hR hb31 hM hkn32 hln32 hnen32
  replace hB:=hB.tr hb31
  replace hR:SX.RSt 20 [] [(.e 3 (.I (totW (c.blocks.take (k))))),(.e 5 (.P n32)),(.e 7 (.slice (some ⟨bbx,box,none⟩) c.blocks.length k1)),(.e 8 (.I (c.blocks.length:Int))),(.e 9 (.I (k:Int))),(.e 12 (.agg #[.I x.params,.slice B1x x.ops.length j1x,.I x.term.kind,.I x.term.a,.I x.term.n,.slice B2x x.term.args.length j2x,.I x.term.b0,.slice B3x x.term.args0.length j3x,.I x.term.b1,.slice B4x x.term.args1.length j4x]))] a29:=hR.keep (ts:=[3,5,7,8,9,12]) (by kernel_rfl)
  refine SX.list_store 3 [(0,(.I x.params)),(1,(.slice B1x x.ops.length j1x)),(2,(.I x.term.kind)),(3,(.I x.term.a)),(4,(.I x.term.n)),(5,(.slice B2x x.term.args.length j2x)),(6,(.I x.term.b0)),(7,(.slice B3x x.term.args0.length j3x)),(8,(.I x.term.b1)),(9,(.slice B4x x.term.args1.length j4x))] [(.I x.params),(.slice B1x x.ops.length j1x),(.I x.term.kind),(.I x.term.a),(.I x.term.n),(.slice B2x x.term.args.length j2x),(.I x.term.b0),(.slice B3x x.term.args0.length j3x),(.I x.term.b1),(.slice B4x x.term.args1.length j4x)] [(⟨bbx,box+k*10,none⟩,(.I x.params)),(⟨bbx,box+k*10+1,none⟩,(.slice B1x x.ops.length j1x)),(⟨bbx,box+k*10+2,none⟩,(.I x.term.kind)),(⟨bbx,box+k*10+3,none⟩,(.I x.term.a)),(⟨bbx,box+k*10+4,none⟩,(.I x.term.n)),(⟨bbx,box+k*10+5,none⟩,(.slice B2x x.term.args.length j2x)),(⟨bbx,box+k*10+6,none⟩,(.I x.term.b0)),(⟨bbx,box+k*10+7,none⟩,(.slice B3x x.term.args0.length j3x)),(⟨bbx,box+k*10+8,none⟩,(.I x.term.b1)),(⟨bbx,box+k*10+9,none⟩,(.slice B4x x.term.args1.length j4x)),(⟨n5,0,none⟩,(.I c.params)),(⟨n5,1,none⟩,(.slice (some ⟨bbx,box,none⟩) c.blocks.length k1)),(⟨n5,2,none⟩,(.slice A2 c.contexts.length k2)),(⟨n5,3,none⟩,(.slice A3 c.objects.length k3))] [(⟨n32,0,none⟩,(.I x.params)),(⟨n32,1,none⟩,(.slice B1x x.ops.length j1x)),(⟨n32,2,none⟩,(.I x.term.kind)),(⟨n32,3,none⟩,(.I x.term.a)),(⟨n32,4,none⟩,(.I x.term.n)),(⟨n32,5,none⟩,(.slice B2x x.term.args.length j2x)),(⟨n32,6,none⟩,(.I x.term.b0)),(⟨n32,7,none⟩,(.slice B3x x.term.args0.length j3x)),(⟨n32,8,none⟩,(.I x.term.b1)),(⟨n32,9,none⟩,(.slice B4x x.term.args1.length j4x)),(⟨bbx,box+k*10,none⟩,(.I x.params)),(⟨bbx,box+k*10+1,none⟩,(.slice B1x x.ops.length j1x)),(⟨bbx,box+k*10+2,none⟩,(.I x.term.kind)),(⟨bbx,box+k*10+3,none⟩,(.I x.term.a)),(⟨bbx,box+k*10+4,none⟩,(.I x.term.n)),(⟨bbx,box+k*10+5,none⟩,(.slice B2x x.term.args.length j2x)),(⟨bbx,box+k*10+6,none⟩,(.I x.term.b0)),(⟨bbx,box+k*10+7,none⟩,(.slice B3x x.term.args0.length j3x)),(⟨bbx,box+k*10+8,none⟩,(.I x.term.b1)),(⟨bbx,box+k*10+9,none⟩,(.slice B4x x.term.args1.length j4x)),(⟨n5,0,none⟩,(.I c.params)),(⟨n5,1,none⟩,(.slice (some ⟨bbx,box,none⟩) c.blocks.length k1)),(⟨n5,2,none⟩,(.slice A2 c.contexts.length k2)),(⟨n5,3,none⟩,(.slice A3 c.objects.length k3))] hR (SX.cells_sub hM [0,1,2,3,4,5,6,7,8,9,10,11,12,13] (by kernel_rfl)) hnen32 hkn32 (by kernel_rfl) (by kernel_rfl) (by kernel_rfl) ?_
  clear hR hM hkn32; intro a33 w34 hR hb35 hM hkn32
  replace hB:=hB.trans (hb35.below (by omega))
  refine SX.list_end 4 (by kernel_rfl) ?_
  refine hK25 _ _ ?_
  refine SX.qf0 [] [.ld [],.ld [],.ld [1],.ld [],.nm (.I (totW (c.blocks.take (k+1)))),.ld []] [3,7,8,9] [(.e 3 (.I (totW (c.blocks.take (k+1)))))] [] [] [] [([],(.I (IntKind.i64.wrap ((totW (c.blocks.take (k)))+(x.ops.length:Int)))),(.I (totW (c.blocks.take (k+1)))))] hR hM hB mix trivial ⟨fun hg=>by rw [totW_step hx],trivial⟩ (fun w' hb' hM'=>trivial) (fun w' hb' hM'=>trivial) fun a36 w37 hR hb38 hB hM=>?_
  replace hkn32:=SX.blk_below hkn32 hb38
  refine hK24 _ _ ?_
  refine SX.qf0 [] [.nm (.I ((k+1:Nat):Int)),.ld []] [3,7,8,9] [(.e 9 (.I ((k+1:Nat):Int)))] [] [] [] [([],(.I (IntKind.i64.wrap ((k:Int)+1))),(.I ((k+1:Nat):Int)))] hR hM hB mix trivial ⟨fun hg=>SX.wrap_ok (by omega),trivial⟩ (fun w' hb' hM'=>trivial) (fun w' hb' hM'=>trivial) fun a39 w40 hR hb41 hB hM=>?_
  replace hkn32:=SX.blk_below hkn32 hb41
  exact ⟨c.blocks.length-(k+1),by omega,k+1,rfl,by omega,hR.keep (ts:=[3,7,8,9]) (by kernel_rfl),hB,SX.cells_sub hM [20,21,22,23] (by kernel_rfl),trivial⟩
 ·skip
  refine wp_exit ?_
  refine hK12 _ _ ?_
  refine SX.qs [.ld [],.ld []] [2,3,7,8,9] [(.e 2 (.I (totW (c.blocks.take (k)))))] hR hM hB mix fun a42 w43 hR hb44 hB hM=>?_
  refine wp_ret ?_
  try simp only [Exit.then,Exit.inBlock,Nat.reduceEqDiff,↓reduceIte]
  refine SX.ret_ 2 (.I (totW (c.blocks.take (k)))) Try.results45 hR (by kernel_rfl) ?_
  clear hR hM mix hK1 hzn5 hb4 hkn5 hln5 hn5 hb8 hb11 hK12 hb15 hm18 hb21 hK22 hb44
  exact ⟨ret_int (totW_all (le_of_dec h23)),hB⟩
end Go.Proofs.Ytlkcidmmpeebeaa

/- Proved: returns,isTail,List -/
namespace Go.Proofs.Ytlkcidmmpeebeaa
open Go.RowKit
set_option maxRecDepth 100000
def retB (b:BlockD):Bool:=b.ops.all (fun o=>!(o.kind != 21&&o.kind != 20))&&(b.term.kind==4&&b.term.a==0)
def isTailD (c:CodeD) (t:TermD):Bool:=if ((t.kind != 3)||decide (0≤t.b1))||decide ((0:Int)<(t.args0.length:Int)) then false else match c.blocks[t.b0.toNat]? with | some b=>retB b | none=>false

end Go.Proofs.Ytlkcidmmpeebeaa

/- Proved: edges,rightContexts -/
namespace Go.Proofs.Ytlkcidmmpeebeaa
open Go.RowKit
set_option maxRecDepth 100000
theorem ctx1_eq (k:Nat) (y:Int × Int × Int):P.ctx1 k y=!((!P.within y.2.2 7)||(decide ((0:Int)<(k:Int))&&((!P.within y.1 ((k:Int)-1))||(!P.within y.2.1 9999)))):=by
 unfold P.ctx1
 have e:decide ((0:Int)<(k:Int))=decide (0<k):=by rw [Bool.eq_iff_iff]; simp
 rw [e]
 cases P.within y.2.2 7 <;> simp

set_option maxHeartbeats 400000 in
theorem rightContexts_cons (u:Value) (l:List (Int × Int × Int)) (w:World) (hl:RecsAt w u l) (hne:0<l.length):Calls Try.prog 82 #[u] w fun e w'=>e=.returned (.bool (P.rightContexts l))∧Below w.heap.size w w':=by
 have hl0:=hl
 obtain ⟨Al,kl,rfl,sl⟩:=hl.shape
 unfold Shape at sl
 have mix:=mixed
 have hB:Below w.heap.size w w:=Below.refl _ _
 have hM:SX.Cells w []:=SX.cells_nil
 refine SX.enter [(.slice Al l.length kl)] 50 Try.func82 rfl rfl (by kernel_rfl) ?_
 intro a hR
 refine SX.qs [.ld []] [0] [] hR hM hB mix fun a1 w2 hR hb3 hB hM=>?_
 refine wp_seq_k fun K4 hK4=>?_
 obtain ⟨x,hx⟩:=get_of_lt (l:=l) (k:=0) hne
 obtain ⟨rbx,rox,hAx,hix,cr0x,cr1x,cr2x⟩:=hl0.elem hx
 subst hAx
 have hox:rbx<w.heap.size:=World.block_lt_of_cell? w _ cr0x
 replace hM:=(SX.cells_add (cell_below hB cr0x) (SX.cells_add (cell_below hB cr1x) (SX.cells_add (cell_below hB cr2x) hM)))
 refine SX.qf [(3,((l.length:Int)==0)),(10,(((l.length:Int)==0)||(x.1 != (-1))))] [.ld [],.ld [],.ld [],.ld [],.ld [],.ix ⟨rbx,rox+0*3,none⟩,.ld [],.ld [0],.ld [],.pk,.ld [],.ld [],.ix ⟨rbx,rox+0*3,none⟩,.ld [],.ld [1],.ld [],.pk] [0,21] [(.e 21 (.bool ((((l.length:Int)==0)||(x.1 != (-1)))||(x.2.1 != (-1)))))] [([(3,false)],⟨rbx,rox,none⟩,l.length,0,3,⟨rbx,rox+0*3,none⟩),([(10,false)],⟨rbx,rox,none⟩,l.length,0,3,⟨rbx,rox+0*3,none⟩)] [] [] [] hR hM hB mix ⟨fun hg=>SX.ix_ok (k:=0) hne,fun hg=>SX.ix_ok (k:=0) hne,trivial⟩ trivial (fun w' hb' hM'=>trivial) (fun w' hb' hM'=>trivial) fun a5 w6 hR hb7 hB hM=>?_
 refine SX.cond_ ((((l.length:Int)==0)||(x.1 != (-1)))||(x.2.1 != (-1))) hR (by kernel_rfl) (fun h8=>?_) (fun h8=>?_)
 ·skip
  refine SX.qs [.ld []] [2] [(.e 2 (.bool false))] hR hM hB mix fun a9 w10 hR hb11 hB hM=>?_
  refine wp_ret ?_
  try simp only [Exit.then,Exit.inBlock,Nat.reduceEqDiff,↓reduceIte]
  refine SX.ret_ 2 (.bool false) Try.results82 hR (by kernel_rfl) ?_
  clear hR hM mix hb3 hK4 hb7 hb11
  refine ⟨ret_bool ?_,hB⟩
  unfold P.rightContexts
  rw [hx]
  have hl1:((l.length:Int)==0)=false:=by rw [beq_eq_false_iff_ne]; omega
  rw [hl1,Bool.false_or] at h8
  simp only [h8,Bool.false_eq_true,↓reduceIte]
 ·skip
  refine wp_skip ?_
  refine hK4 _ _ ?_
  refine wp_seq_k fun K12 hK12=>?_
  refine SX.qs [.ld [],.ld [],.ld []] [22,23,24] [(.e 22 (.slice (some ⟨rbx,rox,none⟩) l.length kl)),(.e 23 (.I (l.length:Int))),(.e 24 (.I 0))] hR hM hB mix fun a13 w14 hR hb15 hB hM=>?_
  refine wp_block ?_
  refine wp_loop_ghost (fun m18 a' w'=>∃ k:Nat,m18=l.length-k∧k≤l.length∧SX.RSt 50 [] [(.e 22 (.slice (some ⟨rbx,rox,none⟩) l.length kl)),(.e 23 (.I (l.length:Int))),(.e 24 (.I (k:Int)))] a'∧Below w.heap.size w w'∧SX.Cells w' [(⟨rbx,rox+0*3,none⟩,(.I x.1)),(⟨rbx,rox+0*3+1,none⟩,(.I x.2.1)),(⟨rbx,rox+0*3+2,none⟩,(.I x.2.2))]∧Upto l P.ctx1 k) (l.length-0) ⟨0,rfl,Nat.zero_le _,hR.keep (ts:=[22,23,24]) (by kernel_rfl),hB,hM,Upto.zero⟩ ?_
  clear hR hM hB
  rintro m18 a16 w17 ⟨k,hm18,hlek,hR,hB,hM,hIk⟩
  refine SX.qs [.ld []] [22,23,24,25] [(.e 25 (.bool (decide ((k:Int)<(l.length:Int)))))] hR hM hB mix fun a19 w20 hR hb21 hB hM=>?_
  refine wp_seq_k fun K22 hK22=>?_
  refine SX.cond_ (decide ((k:Int)<(l.length:Int))) hR (by kernel_rfl) (fun h23=>?_) (fun h23=>?_)
  ·skip
   refine wp_skip ?_
   refine hK22 _ _ ?_
   refine wp_seq_k fun K24 hK24=>?_
   refine wp_block ?_
   refine wp_seq_k fun K25 hK25=>?_
   have hlt:k<l.length:=lt_of_dec h23
   obtain ⟨y,hy⟩:=get_of_lt hlt
   obtain ⟨rby,roy,hAy,hiy,cr0y,cr1y,cr2y⟩:=hl0.elem hy
   obtain ⟨rfl,rfl⟩:rbx=rby∧rox=roy:=by simpa using hAy
   replace hM:=(SX.cells_add (cell_below hB cr0y) (SX.cells_add (cell_below hB cr1y) (SX.cells_add (cell_below hB cr2y) hM)))
   refine SX.region_l ?_
   refine SX.list_q (κ:=[]) 0 3 [.ld [],.ix ⟨rbx,rox+k*3,none⟩,.ld [0,1,2]] [22,23,24,26,28] [(.e 22 (.slice (some ⟨rbx,rox,none⟩) l.length kl)),(.e 23 (.I (l.length:Int))),(.e 24 (.I (k:Int))),(.e 26 (.I (k:Int))),(.e 28 (.agg #[.I y.1,.I y.2.1,.I y.2.2]))] [([],⟨rbx,rox,none⟩,l.length,(k:Int),3,⟨rbx,rox+k*3,none⟩)] [] [] [] hR hM (by kernel_rfl) (by kernel_rfl) ⟨fun hg=>SX.ix_ok (by omega),trivial⟩ trivial (fun w' hb' hM'=>trivial) (fun w' hb' hM'=>trivial) ?_
   clear hR hM; intro a26 w27 hR hb28 hM
   replace hB:=hB.tr hb28
   obtain ⟨n32,hn32⟩:∃ n,w27.heap.size=n:=⟨_,rfl⟩
   have hzn32:w.heap.size≤n32:=by have:=hB.size; omega
   refine SX.list_alloc 3 n32 [(.I 0),(.I 0),(.I 0)] 99 ((.e 4 (.P n32))::[(.e 22 (.slice (some ⟨rbx,rox,none⟩) l.length kl)),(.e 23 (.I (l.length:Int))),(.e 24 (.I (k:Int))),(.e 26 (.I (k:Int))),(.e 28 (.agg #[.I y.1,.I y.2.1,.I y.2.2]))]) hR hM hn32 (by kernel_rfl) ?_
   clear hR hM; intro a29 w30 hR hb31 hM hkn32 hln32 hnen32
   replace hB:=hB.tr hb31
   replace hR:SX.RSt 50 [] [(.e 4 (.P n32)),(.e 22 (.slice (some ⟨rbx,rox,none⟩) l.length kl)),(.e 23 (.I (l.length:Int))),(.e 24 (.I (k:Int))),(.e 26 (.I (k:Int))),(.e 28 (.agg #[.I y.1,.I y.2.1,.I y.2.2]))] a29:=hR.keep (ts:=[4,22,23,24,26,28]) (by kernel_rfl)
   refine SX.list_q0 (κ:=[]) 4 1 [.ld []] [3,4,22,23,24,28] [(.e 3 (.I (k:Int))),(.e 4 (.P n32)),(.e 22 (.slice (some ⟨rbx,rox,none⟩) l.length kl)),(.e 23 (.I (l.length:Int))),(.e 24 (.I (k:Int))),(.e 28 (.agg #[.I y.1,.I y.2.1,.I y.2.2]))] hR hM (by kernel_rfl) (by kernel_rfl) ?_
   clear hR hM; intro a33 w34 hR hb35 hM
   replace hB:=hB.tr hb35
   replace hkn32:=SX.blk_below hkn32 hb35
   refine SX.list_store 5 [(0,(.I y.1)),(1,(.I y.2.1)),(2,(.I y.2.2))] [(.I y.1),(.I y.2.1),(.I y.2.2)] [(⟨rbx,rox+k*3,none⟩,(.I y.1)),(⟨rbx,rox+k*3+1,none⟩,(.I y.2.1)),(⟨rbx,rox+k*3+2,none⟩,(.I y.2.2)),(⟨rbx,rox+0*3,none⟩,(.I x.1)),(⟨rbx,rox+0*3+1,none⟩,(.I x.2.1)),(⟨rbx,rox+0*3+2,none⟩,(.I x.2.2))] [(⟨n32,0,none⟩,(.I y.1)),(⟨n32,1,none⟩,(.I y.2.1)),(⟨n32,2,none⟩,(.I y.2.2)),(⟨rbx,rox+k*3,none⟩,(.I y.1)),(⟨rbx,rox+k*3+1,none⟩,(.I y.2.1)),(⟨rbx,rox+k*3+2,none⟩,(.I y.2.2)),(⟨rbx,rox+0*3,none⟩,(.I x.1)),(⟨rbx,rox+0*3+1,none⟩,(.I x.2.1)),(⟨rbx,rox+0*3+2,none⟩,(.I x.2.2))] hR (SX.cells_sub hM [0,1,2,3,4,5] (by kernel_rfl)) hnen32 hkn32 (by kernel_rfl) (by kernel_rfl) (by kernel_rfl) ?_
   clear hR hM hkn32; intro a36 w37 hR hb38 hM hkn32
   replace hB:=hB.trans (hb38.below (by omega))
   refine SX.list_end 6 (by kernel_rfl) ?_
   refine hK25 _ _ ?_
   refine wp_seq_k fun K39 hK39=>?_
   refine SX.qf [] [.ld [],.ld [2],.cl (.bool (P.within y.2.2 7)),.ld []] [3,4,22,23,24,32] [(.e 32 (.bool (!(P.within y.2.2 7))))] [] [] [([],84,#[(.I y.2.2),(.I 7)],(.bool (P.within y.2.2 7)))] [] hR hM hB mix trivial trivial (fun w' hb' hM'=>trivial) (fun w' hb' hM'=>⟨fun hg=>SX.pureC (within_any _ _ _),trivial⟩) fun a40 w41 hR hb42 hB hM=>?_
   replace hkn32:=SX.blk_below hkn32 hb42
   refine SX.cond_ (!(P.within y.2.2 7)) hR (by kernel_rfl) (fun h43=>?_) (fun h43=>?_)
   ·skip
    refine SX.qs [.ld []] [2,22,23,24] [(.e 2 (.bool false))] hR hM hB mix fun a44 w45 hR hb46 hB hM=>?_
    replace hkn32:=SX.blk_below hkn32 hb46
    refine wp_ret ?_
    try simp only [Exit.then,Exit.inBlock,Nat.reduceEqDiff,↓reduceIte]
    refine SX.ret_ 2 (.bool false) Try.results82 hR (by kernel_rfl) ?_
    clear hR hM mix hb3 hK4 hb7 hK12 hb15 hm18 hb21 hK22 hK24 hK25 hb28 hzn32 hb31 hkn32 hln32 hn32 hnen32 hb35 hb38 hK39 hb42 hb46
    refine ⟨ret_bool ?_,hB⟩
    unfold P.rightContexts
    rw [hx]
    have hl1:((l.length:Int)==0)=false:=by rw [beq_eq_false_iff_ne]; omega
    rw [hl1,Bool.false_or] at h8
    simp only [h8,Bool.false_eq_true,↓reduceIte]
    exact allAt_no hy (by rw [ctx1_eq,h43]; rfl)
   ·skip
    refine wp_skip ?_
    refine hK39 _ _ ?_
    refine SX.qf [(2,decide (0<(k:Int))),(9,(!(P.within y.1 ((k:Int)-1))))] [.ld [],.ld [],.ld [],.ld [],.ld [0],.ld [],.nm (.I ((k:Int)-1)),.cl (.bool (P.within y.1 ((k:Int)-1))),.ld [],.ld [],.ld [],.ld [1],.cl (.bool (P.within y.2.1 9999)),.ld [],.pk,.pk] [22,23,24,48] [(.e 48 (.bool (decide (0<(k:Int))&&((!(P.within y.1 ((k:Int)-1)))||(!(P.within y.2.1 9999))))))] [] [] [([(2,true)],84,#[(.I y.1),(.I ((k:Int)-1))],(.bool (P.within y.1 ((k:Int)-1)))),([(9,false),(2,true)],84,#[(.I y.2.1),(.I 9999)],(.bool (P.within y.2.1 9999)))] [([(2,true)],(.I (IntKind.i64.wrap ((k:Int)-1))),(.I ((k:Int)-1)))] hR hM hB mix trivial ⟨fun hg=>SX.wrap_ok (by omega),trivial⟩ (fun w' hb' hM'=>trivial) (fun w' hb' hM'=>⟨fun hg=>SX.pureC (within_any _ _ _),fun hg=>SX.pureC (within_any _ _ _),trivial⟩) fun a47 w48 hR hb49 hB hM=>?_
    replace hkn32:=SX.blk_below hkn32 hb49
    refine SX.cond_ (decide (0<(k:Int))&&((!(P.within y.1 ((k:Int)-1)))||(!(P.within y.2.1 9999)))) hR (by kernel_rfl) (fun h50=>?_) (fun h50=>?_)
    ·skip
     refine SX.qs [.ld []] [2,22,23,24] [(.e 2 (.bool false))] hR hM hB mix fun a51 w52 hR hb53 hB hM=>?_
     replace hkn32:=SX.blk_below hkn32 hb53
     refine wp_ret ?_
     try simp only [Exit.then,Exit.inBlock,Nat.reduceEqDiff,↓reduceIte]
     refine SX.ret_ 2 (.bool false) Try.results82 hR (by kernel_rfl) ?_
     clear hR hM mix hb3 hK4 hb7 hK12 hb15 hm18 hb21 hK22 hK24 hK25 hb28 hzn32 hb31 hkn32 hln32 hn32 hnen32 hb35 hb38 hK39 hb42 hb49 hb53
     refine ⟨ret_bool ?_,hB⟩
     unfold P.rightContexts
     rw [hx]
     have hl1:((l.length:Int)==0)=false:=by rw [beq_eq_false_iff_ne]; omega
     rw [hl1,Bool.false_or] at h8
     simp only [h8,Bool.false_eq_true,↓reduceIte]
     exact allAt_no hy (by rw [ctx1_eq,h43,h50]; rfl)
    ·skip
     refine wp_skip ?_
     refine hK24 _ _ ?_
     refine SX.qf0 [] [.nm (.I ((k+1:Nat):Int)),.ld []] [22,23,24] [(.e 24 (.I ((k+1:Nat):Int)))] [] [] [] [([],(.I (IntKind.i64.wrap ((k:Int)+1))),(.I ((k+1:Nat):Int)))] hR hM hB mix trivial ⟨fun hg=>SX.wrap_ok (by omega),trivial⟩ (fun w' hb' hM'=>trivial) (fun w' hb' hM'=>trivial) fun a54 w55 hR hb56 hB hM=>?_
     replace hkn32:=SX.blk_below hkn32 hb56
     exact ⟨l.length-(k+1),by omega,k+1,rfl,by omega,hR.keep (ts:=[22,23,24]) (by kernel_rfl),hB,SX.cells_sub hM [6,7,8] (by kernel_rfl),hIk.step hy (by rw [ctx1_eq,h43,h50]; rfl)⟩
  ·skip
   refine wp_exit ?_
   refine hK12 _ _ ?_
   refine SX.qs [.ld []] [2,22,23,24] [(.e 2 (.bool true))] hR hM hB mix fun a57 w58 hR hb59 hB hM=>?_
   refine wp_ret ?_
   try simp only [Exit.then,Exit.inBlock,Nat.reduceEqDiff,↓reduceIte]
   refine SX.ret_ 2 (.bool true) Try.results82 hR (by kernel_rfl) ?_
   clear hR hM mix hb3 hK4 hb7 hK12 hb15 hm18 hb21 hK22 hb59
   refine ⟨ret_bool ?_,hB⟩
   unfold P.rightContexts
   rw [hx]
   have hl1:((l.length:Int)==0)=false:=by rw [beq_eq_false_iff_ne]; omega
   rw [hl1,Bool.false_or] at h8
   simp only [h8,Bool.false_eq_true,↓reduceIte]
   exact hIk.allAt (le_of_dec h23)

set_option maxHeartbeats 400000 in
theorem rightContexts_nil (u:Value) (l:List (Int × Int × Int)) (w:World) (hl:RecsAt w u l) (hne:l.length=0):Calls Try.prog 82 #[u] w fun e w'=>e=.returned (.bool (P.rightContexts l))∧Below w.heap.size w w':=by
 have hl0:=hl
 obtain ⟨Al,kl,rfl,sl⟩:=hl.shape
 unfold Shape at sl
 have mix:=mixed
 have hB:Below w.heap.size w w:=Below.refl _ _
 have hM:SX.Cells w []:=SX.cells_nil
 refine SX.enter [(.slice Al l.length kl)] 50 Try.func82 rfl rfl (by kernel_rfl) ?_
 intro a hR
 refine SX.qs [.ld []] [0] [] hR hM hB mix fun a1 w2 hR hb3 hB hM=>?_
 refine wp_seq_k fun K4 hK4=>?_
 refine SX.qf [(3,((l.length:Int)==0)),(10,(((l.length:Int)==0)||true))] [.ld [],.ld [],.ld [],.ld [],.ld [],.hd (.P 0),.ld [],.hd (.I 0),.ld [],.pk,.ld [],.ld [],.hd (.P 0),.ld [],.hd (.I 0),.ld [],.pk] [0,21] [(.e 21 (.bool ((((l.length:Int)==0)||true)||true)))] [] [([(3,false)],ixS 23 (.slice Al l.length kl) (.I 0),(.P 0)),([(3,false)],ldS 3 (.P 0),(.I 0)),([(10,false)],ixS 23 (.slice Al l.length kl) (.I 0),(.P 0)),([(10,false)],ldS 3 (.pointer (some ⟨0,1,none⟩)),(.I 0))] [] [] hR hM hB mix trivial trivial (fun w' hb' hM'=>⟨fun hg=>absurd hg (by simp [SX.pv,SX.kv,hne]),fun hg=>absurd hg (by simp [SX.pv,SX.kv,hne]),fun hg=>absurd hg (by simp [SX.pv,SX.kv,hne]),fun hg=>absurd hg (by simp [SX.pv,SX.kv,hne]),trivial⟩) (fun w' hb' hM'=>trivial) fun a5 w6 hR hb7 hB hM=>?_
 refine SX.cond_ ((((l.length:Int)==0)||true)||true) hR (by kernel_rfl) (fun h8=>?_) (fun h8=>?_)
 ·skip
  refine SX.qs [.ld []] [2] [(.e 2 (.bool false))] hR hM hB mix fun a9 w10 hR hb11 hB hM=>?_
  refine wp_ret ?_
  try simp only [Exit.then,Exit.inBlock,Nat.reduceEqDiff,↓reduceIte]
  refine SX.ret_ 2 (.bool false) Try.results82 hR (by kernel_rfl) ?_
  clear hR hM mix hb3 hK4 hb7 hb11
  refine ⟨ret_bool ?_,hB⟩
  unfold P.rightContexts
  rw [List.getElem?_eq_none (by omega)]
 ·skip
  exact absurd h8 (by simp [hne])

theorem rightContexts_any (u:Value) (l:List (Int × Int × Int)) (w:World) (hl:RecsAt w u l):Calls Try.prog 82 #[u] w fun e w'=>e=.returned (.bool (P.rightContexts l))∧Below w.heap.size w w':=by
 rcases Nat.eq_zero_or_pos l.length with hne | hne
 ·exact rightContexts_nil u l w hl hne
 ·exact rightContexts_cons u l w hl hne
end Go.Proofs.Ytlkcidmmpeebeaa
