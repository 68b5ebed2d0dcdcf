/- Proved: source,rightBind,clean,rightOp -/
import Derived.Test.YtlkcidmmpeebeaaScC
set_option linter.unusedVariables false
set_option linter.unusedSimpArgs false
namespace Go.Proofs.Ytlkcidmmpeebeaa
open Go.RowKit
set_option maxRecDepth 100000
def rightBindD (c:CodeD) (ps:Int) (D:List (Int × Int)) (o:OpD) (n:Int):Bool :=
 if !P.within o.var 23||!P.within o.piece 3 then false
 else if o.sk==0 then o.sv==0&&o.sa==0 else if o.sk==1 then o.sv==0 else if o.sk==2 then hasD ps D o.sv n else if o.sk==3 then P.within o.sv (c.params-1) else false

set_option maxHeartbeats 400000 in
theorem rightBind_any (c:CodeD) (v1 v2 v3:Value) (w:World) (h:CodeAt w v1 v2 v3 c) (o:OpD) (n:Int) (hcp:0≤c.params) (ps:Int) (mb:Nat) (D:List (Int × Int)) (hp:0≤ps∧ps≤999) (hD:MapI w mb D):Calls Try.prog 129 #[(.agg #[.I c.params,v1,v2,v3]),(.agg #[.I ps,.map (some mb)]),(.agg #[.I o.kind,.I o.dst,.I o.a,.I o.b,.I o.n,.I o.ctx,.I o.var,.I o.piece,.I o.sk,.I o.sv,.I o.sa]),.I n] w fun e w'=>e=.returned (.bool (rightBindD c ps D o n))∧Below w.heap.size w w':=by
 have hc1:=h.1; unfold I64 at hc1
 have h0:=h
 obtain ⟨A1,k1,rfl,s1⟩:=h.2.1.shape
 obtain ⟨A2,k2,rfl,s2⟩:=h.2.2.1.shape
 obtain ⟨A3,k3,rfl,s3⟩:=h.2.2.2.shape
 unfold Shape at s1 s2 s3
 have mix:=mixed
 have hB:Below w.heap.size w w:=Below.refl _ _
 have hM:SX.Cells w []:=SX.cells_nil
 refine SX.enter [(.agg #[.I c.params,.slice A1 c.blocks.length k1,.slice A2 c.contexts.length k2,.slice A3 c.objects.length k3]),(.agg #[.I ps,.map (some mb)]),(.agg #[.I o.kind,.I o.dst,.I o.a,.I o.b,.I o.n,.I o.ctx,.I o.var,.I o.piece,.I o.sk,.I o.sv,.I o.sa]),(.I n)] 57 Try.func129 rfl rfl (by kernel_rfl) ?_
 intro a hR
 refine wp_seq_k fun K1 hK1=>?_
 refine SX.region_l ?_
 obtain ⟨n5,hn5⟩:∃ n,w.heap.size=n:=⟨_,rfl⟩
 have hzn5:w.heap.size≤n5:=by have:=hB.size; omega
 refine SX.list_box 0 n5 [(.I c.params),(.slice A1 c.blocks.length k1),(.slice A2 c.contexts.length k2),(.slice A3 c.objects.length k3)] 26 ((.e 4 (.P n5))::[(.e 0 (.agg #[.I c.params,.slice A1 c.blocks.length k1,.slice A2 c.contexts.length k2,.slice A3 c.objects.length k3])),(.e 1 (.agg #[.I ps,.map (some mb)])),(.e 2 (.agg #[.I o.kind,.I o.dst,.I o.a,.I o.b,.I o.n,.I o.ctx,.I o.var,.I o.piece,.I o.sk,.I o.sv,.I o.sa])),(.e 3 (.I n))]) [(⟨n5,0,none⟩,(.I c.params)),(⟨n5,1,none⟩,(.slice A1 c.blocks.length k1)),(⟨n5,2,none⟩,(.slice A2 c.contexts.length k2)),(⟨n5,3,none⟩,(.slice A3 c.objects.length k3))] hR hM hn5 (by kernel_rfl) (by kernel_rfl) ?_
 clear hR hM; intro a2 w3 hR hb4 hM hkn5 hln5
 replace hB:=hB.tr hb4
 replace hR:SX.RSt 57 [] [(.e 1 (.agg #[.I ps,.map (some mb)])),(.e 2 (.agg #[.I o.kind,.I o.dst,.I o.a,.I o.b,.I o.n,.I o.ctx,.I o.var,.I o.piece,.I o.sk,.I o.sv,.I o.sa])),(.e 3 (.I n)),(.e 4 (.P n5))] a2:=hR.keep (ts:=[1,2,3,4]) (by kernel_rfl)
 obtain ⟨n9,hn9⟩:∃ n,w3.heap.size=n:=⟨_,rfl⟩
 have hzn9:w.heap.size≤n9:=by have:=hB.size; omega
 have qn5n9:n5<n9:=by have:=(Array.getElem?_eq_some_iff.1 hkn5).1; omega
 refine SX.list_box 1 n9 [(.I ps),(.map (some mb))] 183 ((.e 5 (.P n9))::[(.e 1 (.agg #[.I ps,.map (some mb)])),(.e 2 (.agg #[.I o.kind,.I o.dst,.I o.a,.I o.b,.I o.n,.I o.ctx,.I o.var,.I o.piece,.I o.sk,.I o.sv,.I o.sa])),(.e 3 (.I n)),(.e 4 (.P n5))]) [(⟨n9,0,none⟩,(.I ps)),(⟨n9,1,none⟩,(.map (some mb))),(⟨n5,0,none⟩,(.I c.params)),(⟨n5,1,none⟩,(.slice A1 c.blocks.length k1)),(⟨n5,2,none⟩,(.slice A2 c.contexts.length k2)),(⟨n5,3,none⟩,(.slice A3 c.objects.length k3))] hR hM hn9 (by kernel_rfl) (by kernel_rfl) ?_
 clear hR hM; intro a6 w7 hR hb8 hM hkn9 hln9
 replace hB:=hB.tr hb8
 replace hkn5:=SX.blk_below hkn5 hb8
 replace hR:SX.RSt 57 [] [(.e 2 (.agg #[.I o.kind,.I o.dst,.I o.a,.I o.b,.I o.n,.I o.ctx,.I o.var,.I o.piece,.I o.sk,.I o.sv,.I o.sa])),(.e 3 (.I n)),(.e 4 (.P n5)),(.e 5 (.P n9))] a6:=hR.keep (ts:=[2,3,4,5]) (by kernel_rfl)
 obtain ⟨n13,hn13⟩:∃ n,w7.heap.size=n:=⟨_,rfl⟩
 have hzn13:w.heap.size≤n13:=by have:=hB.size; omega
 have qn5n13:n5<n13:=by have:=(Array.getElem?_eq_some_iff.1 hkn5).1; omega
 have qn9n13:n9<n13:=by have:=(Array.getElem?_eq_some_iff.1 hkn9).1; omega
 refine SX.list_box 2 n13 [(.I o.kind),(.I o.dst),(.I o.a),(.I o.b),(.I o.n),(.I o.ctx),(.I o.var),(.I o.piece),(.I o.sk),(.I o.sv),(.I o.sa)] 74 ((.e 6 (.P n13))::[(.e 2 (.agg #[.I o.kind,.I o.dst,.I o.a,.I o.b,.I o.n,.I o.ctx,.I o.var,.I o.piece,.I o.sk,.I o.sv,.I o.sa])),(.e 3 (.I n)),(.e 4 (.P n5)),(.e 5 (.P n9))]) [(⟨n13,0,none⟩,(.I o.kind)),(⟨n13,1,none⟩,(.I o.dst)),(⟨n13,2,none⟩,(.I o.a)),(⟨n13,3,none⟩,(.I o.b)),(⟨n13,4,none⟩,(.I o.n)),(⟨n13,5,none⟩,(.I o.ctx)),(⟨n13,6,none⟩,(.I o.var)),(⟨n13,7,none⟩,(.I o.piece)),(⟨n13,8,none⟩,(.I o.sk)),(⟨n13,9,none⟩,(.I o.sv)),(⟨n13,10,none⟩,(.I o.sa)),(⟨n9,0,none⟩,(.I ps)),(⟨n9,1,none⟩,(.map (some mb))),(⟨n5,0,none⟩,(.I c.params)),(⟨n5,1,none⟩,(.slice A1 c.blocks.length k1)),(⟨n5,2,none⟩,(.slice A2 c.contexts.length k2)),(⟨n5,3,none⟩,(.slice A3 c.objects.length k3))] hR hM hn13 (by kernel_rfl) (by kernel_rfl) ?_
 clear hR hM; intro a10 w11 hR hb12 hM hkn13 hln13
 replace hB:=hB.tr hb12
 replace hkn5:=SX.blk_below hkn5 hb12
 replace hkn9:=SX.blk_below hkn9 hb12
 replace hR:SX.RSt 57 [] [(.e 3 (.I n)),(.e 4 (.P n5)),(.e 5 (.P n9)),(.e 6 (.P n13))] a10:=hR.keep (ts:=[3,4,5,6]) (by kernel_rfl)
 refine SX.list_q0 (κ:=[]) 3 1 [.ld []] [3,4,5,6] [(.e 3 (.I n)),(.e 4 (.P n5)),(.e 5 (.P n9)),(.e 6 (.P n13))] hR hM (by kernel_rfl) (by kernel_rfl) ?_
 clear hR hM; intro a14 w15 hR hb16 hM
 replace hB:=hB.tr hb16
 replace hkn5:=SX.blk_below hkn5 hb16
 replace hkn9:=SX.blk_below hkn9 hb16
 replace hkn13:=SX.blk_below hkn13 hb16
 refine SX.list_end 4 (by kernel_rfl) ?_
 refine hK1 _ _ ?_
 refine wp_seq_k fun K17 hK17=>?_
 refine SX.qf [(4,(!(P.within o.var 23)))] [.ld [],.ld [6],.cl (.bool (P.within o.var 23)),.ld [],.ld [],.ld [],.ld [7],.cl (.bool (P.within o.piece 3)),.ld [],.pk] [3,4,5,6,18] [(.e 18 (.bool ((!(P.within o.var 23))||(!(P.within o.piece 3)))))] [] [] [([],84,#[(.I o.var),(.I 23)],(.bool (P.within o.var 23))),([(4,false)],84,#[(.I o.piece),(.I 3)],(.bool (P.within o.piece 3)))] [] hR hM hB mix trivial trivial (fun w' hb' hM'=>trivial) (fun w' hb' hM'=>⟨fun hg=>SX.pureC (within_any _ _ _),fun hg=>SX.pureC (within_any _ _ _),trivial⟩) fun a18 w19 hR hb20 hB hM=>?_
 replace hkn5:=SX.blk_below hkn5 hb20
 replace hkn9:=SX.blk_below hkn9 hb20
 replace hkn13:=SX.blk_below hkn13 hb20
 refine SX.cond_ ((!(P.within o.var 23))||(!(P.within o.piece 3))) hR (by kernel_rfl) (fun h21=>?_) (fun h21=>?_)
 ·skip
  refine SX.qs [.ld []] [8] [(.e 8 (.bool false))] hR hM hB mix fun a22 w23 hR hb24 hB hM=>?_
  replace hkn5:=SX.blk_below hkn5 hb24
  replace hkn9:=SX.blk_below hkn9 hb24
  replace hkn13:=SX.blk_below hkn13 hb24
  refine wp_ret ?_
  try simp only [Exit.then,Exit.inBlock,Nat.reduceEqDiff,↓reduceIte]
  refine SX.ret_ 8 (.bool false) Try.results129 hR (by kernel_rfl) ?_
  clear hR hM mix hK1 hzn5 hb4 hkn5 hln5 hn5 hzn9 qn5n9 hb8 hkn9 hln9 hn9 hzn13 qn5n13 qn9n13 hb12 hkn13 hln13 hn13 hb16 hK17 hb20 hb24
  refine ⟨ret_bool ?_,hB⟩
  unfold rightBindD
  simp only [h21,Bool.false_eq_true,↓reduceIte]
 ·skip
  refine wp_skip ?_
  refine hK17 _ _ ?_
  refine wp_seq_k fun K25 hK25=>?_
  refine SX.qs [.ld [],.ld [],.ld [8]] [3,4,5,6,21] [(.e 21 (.I o.sk))] hR hM hB mix fun a26 w27 hR hb28 hB hM=>?_
  replace hkn5:=SX.blk_below hkn5 hb28
  replace hkn9:=SX.blk_below hkn9 hb28
  replace hkn13:=SX.blk_below hkn13 hb28
  refine wp_block ?_
  refine SX.qs [.ld [],.ld []] [3,4,5,6,21,22] [(.e 22 (.bool (o.sk==0)))] hR hM hB mix fun a29 w30 hR hb31 hB hM=>?_
  replace hkn5:=SX.blk_below hkn5 hb31
  replace hkn9:=SX.blk_below hkn9 hb31
  replace hkn13:=SX.blk_below hkn13 hb31
  refine SX.cond_ (o.sk==0) hR (by kernel_rfl) (fun h32=>?_) (fun h32=>?_)
  ·skip
   refine SX.qf [(4,(o.sv==0))] [.ld [],.ld [],.ld [9],.ld [],.ld [],.ld [],.ld [],.ld [10],.ld [],.pk,.ld []] [8] [(.e 8 (.bool ((o.sv==0)&&(o.sa==0))))] [] [] [] [] hR hM hB mix trivial trivial (fun w' hb' hM'=>trivial) (fun w' hb' hM'=>trivial) fun a33 w34 hR hb35 hB hM=>?_
   replace hkn5:=SX.blk_below hkn5 hb35
   replace hkn9:=SX.blk_below hkn9 hb35
   replace hkn13:=SX.blk_below hkn13 hb35
   refine wp_ret ?_
   try simp only [Exit.then,Exit.inBlock,Nat.reduceEqDiff,↓reduceIte]
   refine SX.ret_ 8 (.bool ((o.sv==0)&&(o.sa==0))) Try.results129 hR (by kernel_rfl) ?_
   clear hR hM mix hK1 hzn5 hb4 hkn5 hln5 hn5 hzn9 qn5n9 hb8 hkn9 hln9 hn9 hzn13 qn5n13 qn9n13 hb12 hkn13 hln13 hn13 hb16 hK17 hb20 hK25 hb28 hb31 hb35
   refine ⟨ret_bool ?_,hB⟩
   unfold rightBindD
   simp only [h21,h32,Bool.false_eq_true,↓reduceIte]
  ·skip
   refine SX.qs [.ld [],.ld []] [3,4,5,6,21,34] [(.e 34 (.bool (o.sk==1)))] hR hM hB mix fun a36 w37 hR hb38 hB hM=>?_
   replace hkn5:=SX.blk_below hkn5 hb38
   replace hkn9:=SX.blk_below hkn9 hb38
   replace hkn13:=SX.blk_below hkn13 hb38
   refine SX.cond_ (o.sk==1) hR (by kernel_rfl) (fun h39=>?_) (fun h39=>?_)
   ·skip
    refine SX.qs [.ld [],.ld [],.ld [9],.ld [],.ld []] [8] [(.e 8 (.bool (o.sv==0)))] hR hM hB mix fun a40 w41 hR hb42 hB hM=>?_
    replace hkn5:=SX.blk_below hkn5 hb42
    replace hkn9:=SX.blk_below hkn9 hb42
    replace hkn13:=SX.blk_below hkn13 hb42
    refine wp_ret ?_
    try simp only [Exit.then,Exit.inBlock,Nat.reduceEqDiff,↓reduceIte]
    refine SX.ret_ 8 (.bool (o.sv==0)) Try.results129 hR (by kernel_rfl) ?_
    clear hR hM mix hK1 hzn5 hb4 hkn5 hln5 hn5 hzn9 qn5n9 hb8 hkn9 hln9 hn9 hzn13 qn5n13 qn9n13 hb12 hkn13 hln13 hn13 hb16 hK17 hb20 hK25 hb28 hb31 hb38 hb42
    refine ⟨ret_bool ?_,hB⟩
    unfold rightBindD
    simp only [h21,h32,h39,Bool.false_eq_true,↓reduceIte]
   ·skip
    refine SX.qs [.ld [],.ld []] [3,4,5,6,21,40] [(.e 40 (.bool (o.sk==2)))] hR hM hB mix fun a43 w44 hR hb45 hB hM=>?_
    replace hkn5:=SX.blk_below hkn5 hb45
    replace hkn9:=SX.blk_below hkn9 hb45
    replace hkn13:=SX.blk_below hkn13 hb45
    refine SX.cond_ (o.sk==2) hR (by kernel_rfl) (fun h46=>?_) (fun h46=>?_)
    ·skip
     refine SX.qf [] [.ld [11,12],.ld [],.ld [],.ld [9],.ld [],.cl (.bool (hasD ps D o.sv n)),.ld []] [8] [(.e 8 (.bool (hasD ps D o.sv n)))] [] [] [([],154,#[(.agg #[.I ps,.map (some mb)]),(.I o.sv),(.I n)],(.bool (hasD ps D o.sv n)))] [] hR hM hB mix trivial trivial (fun w' hb' hM'=>trivial) (fun w' hb' hM'=>⟨fun hg=>sc_has _ _ _ _ _ _ hp (hD.below (hB.tr hb')),trivial⟩) fun a47 w48 hR hb49 hB hM=>?_
     replace hkn5:=SX.blk_below hkn5 hb49
     replace hkn9:=SX.blk_below hkn9 hb49
     replace hkn13:=SX.blk_below hkn13 hb49
     refine wp_ret ?_
     try simp only [Exit.then,Exit.inBlock,Nat.reduceEqDiff,↓reduceIte]
     refine SX.ret_ 8 (.bool (hasD ps D o.sv n)) Try.results129 hR (by kernel_rfl) ?_
     clear hR hM mix hK1 hzn5 hb4 hkn5 hln5 hn5 hzn9 qn5n9 hb8 hkn9 hln9 hn9 hzn13 qn5n13 qn9n13 hb12 hkn13 hln13 hn13 hb16 hK17 hb20 hK25 hb28 hb31 hb38 hb45 hb49
     refine ⟨ret_bool ?_,hB⟩
     unfold rightBindD
     simp only [h21,h32,h39,h46,Bool.false_eq_true,↓reduceIte]
    ·skip
     refine SX.qs [.ld [],.ld []] [4,6,48] [(.e 48 (.bool (o.sk==3)))] hR hM hB mix fun a50 w51 hR hb52 hB hM=>?_
     replace hkn5:=SX.blk_below hkn5 hb52
     replace hkn9:=SX.blk_below hkn9 hb52
     replace hkn13:=SX.blk_below hkn13 hb52
     refine SX.cond_ (o.sk==3) hR (by kernel_rfl) (fun h53=>?_) (fun h53=>?_)
     ·skip
      refine SX.qf [] [.ld [],.ld [],.ld [9],.ld [],.ld [13],.nm (.I (c.params-1)),.cl (.bool (P.within o.sv (c.params-1))),.ld []] [8] [(.e 8 (.bool (P.within o.sv (c.params-1))))] [] [] [([],84,#[(.I o.sv),(.I (c.params-1))],(.bool (P.within o.sv (c.params-1))))] [([],(.I (IntKind.i64.wrap (c.params-1))),(.I (c.params-1)))] hR hM hB mix trivial ⟨fun hg=>SX.wrap_ok (by omega),trivial⟩ (fun w' hb' hM'=>trivial) (fun w' hb' hM'=>⟨fun hg=>SX.pureC (within_any _ _ _),trivial⟩) fun a54 w55 hR hb56 hB hM=>?_
      replace hkn5:=SX.blk_below hkn5 hb56
      replace hkn9:=SX.blk_below hkn9 hb56
      replace hkn13:=SX.blk_below hkn13 hb56
      refine wp_ret ?_
      try simp only [Exit.then,Exit.inBlock,Nat.reduceEqDiff,↓reduceIte]
      refine SX.ret_ 8 (.bool (P.within o.sv (c.params-1))) Try.results129 hR (by kernel_rfl) ?_
      clear hR hM mix hK1 hzn5 hb4 hkn5 hln5 hn5 hzn9 qn5n9 hb8 hkn9 hln9 hn9 hzn13 qn5n13 qn9n13 hb12 hkn13 hln13 hn13 hb16 hK17 hb20 hK25 hb28 hb31 hb38 hb45 hb52 hb56
      refine ⟨ret_bool ?_,hB⟩
      unfold rightBindD
      simp only [h21,h32,h39,h46,h53,Bool.false_eq_true,↓reduceIte]
     ·skip
      refine wp_skip ?_
      refine hK25 _ _ ?_
      refine SX.qs [.ld []] [8] [(.e 8 (.bool false))] hR hM hB mix fun a57 w58 hR hb59 hB hM=>?_
      replace hkn5:=SX.blk_below hkn5 hb59
      replace hkn9:=SX.blk_below hkn9 hb59
      replace hkn13:=SX.blk_below hkn13 hb59
      refine wp_ret ?_
      try simp only [Exit.then,Exit.inBlock,Nat.reduceEqDiff,↓reduceIte]
      refine SX.ret_ 8 (.bool false) Try.results129 hR (by kernel_rfl) ?_
      clear hR hM mix hK1 hzn5 hb4 hkn5 hln5 hn5 hzn9 qn5n9 hb8 hkn9 hln9 hn9 hzn13 qn5n13 qn9n13 hb12 hkn13 hln13 hn13 hb16 hK17 hb20 hK25 hb28 hb31 hb38 hb45 hb52 hb59
      refine ⟨ret_bool ?_,hB⟩
      unfold rightBindD
      simp only [h21,h32,h39,h46,h53,Bool.false_eq_true,↓reduceIte]

set_option maxHeartbeats 400000 in
theorem clean1_any (u x f:Int) (nf:Nat) (w:World) (hf:w.cell? ⟨nf,0,none⟩=some (.I f)):Calls Try.prog 153 #[(.I u),(.I x),(.P nf)] w fun e w'=>e=.returned (.bool ((andI f u==0)&&x != 0))∧Below w.heap.size w w':=by
 have mix:=mixed
 have hB:Below w.heap.size w w:=Below.refl _ _
 have hM:SX.Cells w [(⟨nf,0,none⟩,.I f)]:=SX.cells_cons hf SX.cells_nil
 refine SX.enter [(.I u),(.I x),(.P nf)] 14 Try.func153 rfl rfl (by kernel_rfl) ?_
 intro a hR
 refine SX.qs [.ld []] [0,1,2] [] hR hM hB mix fun a1 w2 hR hb3 hB hM=>?_
 refine SX.qf [(4,((andI f u)==0))] [.ld [0],.ld [],.ld [],.ld [],.ld [],.ld [],.ld [],.pk,.ld []] [5] [(.e 5 (.bool (((andI f u)==0)&&(x != 0))))] [] [] [] [] hR hM hB mix trivial trivial (fun w' hb' hM'=>trivial) (fun w' hb' hM'=>trivial) fun a4 w5 hR hb6 hB hM=>?_
 refine wp_ret ?_
 try simp only [Exit.then,Exit.inBlock,Nat.reduceEqDiff,↓reduceIte]
 refine SX.ret_ 5 (.bool (((andI f u)==0)&&(x != 0))) Try.results153 hR (by kernel_rfl) ?_
 clear hR hM mix hb3 hb6
 exact ⟨rfl,hB⟩

set_option maxHeartbeats 400000 in
theorem clean_any (o:OpD) (w:World):Calls Try.prog 127 #[(.agg #[.I o.kind,.I o.dst,.I o.a,.I o.b,.I o.n,.I o.ctx,.I o.var,.I o.piece,.I o.sk,.I o.sv,.I o.sa])] w fun e w'=>e=.returned (.bool (P.clean o))∧Below w.heap.size w w':=by
 have mix:=mixed
 have hB:Below w.heap.size w w:=Below.refl _ _
 have hM:SX.Cells w []:=SX.cells_nil
 refine SX.enter [(.agg #[.I o.kind,.I o.dst,.I o.a,.I o.b,.I o.n,.I o.ctx,.I o.var,.I o.piece,.I o.sk,.I o.sv,.I o.sa])] 63 Try.func127 rfl rfl (by kernel_rfl) ?_
 intro a hR
 refine wp_seq_k fun K1 hK1=>?_
 refine SX.region_l ?_
 obtain ⟨n5,hn5⟩:∃ n,w.heap.size=n:=⟨_,rfl⟩
 have hzn5:w.heap.size≤n5:=by have:=hB.size; omega
 refine SX.list_box 0 n5 [(.I o.kind),(.I o.dst),(.I o.a),(.I o.b),(.I o.n),(.I o.ctx),(.I o.var),(.I o.piece),(.I o.sk),(.I o.sv),(.I o.sa)] 74 ((.e 1 (.P n5))::[(.e 0 (.agg #[.I o.kind,.I o.dst,.I o.a,.I o.b,.I o.n,.I o.ctx,.I o.var,.I o.piece,.I o.sk,.I o.sv,.I o.sa]))]) [(⟨n5,0,none⟩,(.I o.kind)),(⟨n5,1,none⟩,(.I o.dst)),(⟨n5,2,none⟩,(.I o.a)),(⟨n5,3,none⟩,(.I o.b)),(⟨n5,4,none⟩,(.I o.n)),(⟨n5,5,none⟩,(.I o.ctx)),(⟨n5,6,none⟩,(.I o.var)),(⟨n5,7,none⟩,(.I o.piece)),(⟨n5,8,none⟩,(.I o.sk)),(⟨n5,9,none⟩,(.I o.sv)),(⟨n5,10,none⟩,(.I o.sa))] hR hM hn5 (by kernel_rfl) (by kernel_rfl) ?_
 clear hR hM; intro a2 w3 hR hb4 hM hkn5 hln5
 replace hB:=hB.tr hb4
 replace hR:SX.RSt 63 [] [(.e 1 (.P n5))] a2:=hR.keep (ts:=[1]) (by kernel_rfl)
 refine SX.list_q0 (κ:=[]) 1 1 [.ld []] [1] [(.e 1 (.P n5))] hR hM (by kernel_rfl) (by kernel_rfl) ?_
 clear hR hM; intro a6 w7 hR hb8 hM
 replace hB:=hB.tr hb8
 replace hkn5:=SX.blk_below hkn5 hb8
 refine SX.list_end 2 (by kernel_rfl) ?_
 refine hK1 _ _ ?_
 refine wp_seq_k fun K9 hK9=>?_
 refine SX.region_l ?_
 refine SX.list_q (κ:=[]) 0 3 [.ld [],.ld [0],.cl (.I (fieldsN o.kind))] [1,7] [(.e 1 (.P n5)),(.e 7 (.I (fieldsN o.kind)))] [] [] [([],126,#[(.I o.kind)],(.I (fieldsN o.kind)))] [] hR hM (by kernel_rfl) (by kernel_rfl) trivial trivial (fun w' hb' hM'=>trivial) (fun w' hb' hM'=>⟨fun hg=>SX.pureC (fields_any _ _),trivial⟩) ?_
 clear hR hM; intro a10 w11 hR hb12 hM
 replace hB:=hB.tr hb12
 replace hkn5:=SX.blk_below hkn5 hb12
 obtain ⟨n16,hn16⟩:∃ n,w11.heap.size=n:=⟨_,rfl⟩
 have hzn16:w.heap.size≤n16:=by have:=hB.size; omega
 have qn5n16:n5<n16:=by have:=(Array.getElem?_eq_some_iff.1 hkn5).1; omega
 refine SX.list_alloc 3 n16 [(.I 0)] 3 ((.e 3 (.P n16))::[(.e 1 (.P n5)),(.e 7 (.I (fieldsN o.kind)))]) hR hM hn16 (by kernel_rfl) ?_
 clear hR hM; intro a13 w14 hR hb15 hM hkn16 hln16 hnen16
 replace hB:=hB.tr hb15
 replace hkn5:=SX.blk_below hkn5 hb15
 replace hR:SX.RSt 63 [] [(.e 1 (.P n5)),(.e 3 (.P n16)),(.e 7 (.I (fieldsN o.kind)))] a13:=hR.keep (ts:=[1,3,7]) (by kernel_rfl)
 refine SX.list_store 4 [(0,(.I (fieldsN o.kind)))] [(.I (fieldsN o.kind))] [(⟨n5,0,none⟩,(.I o.kind)),(⟨n5,1,none⟩,(.I o.dst)),(⟨n5,2,none⟩,(.I o.a)),(⟨n5,3,none⟩,(.I o.b)),(⟨n5,4,none⟩,(.I o.n)),(⟨n5,5,none⟩,(.I o.ctx)),(⟨n5,6,none⟩,(.I o.var)),(⟨n5,7,none⟩,(.I o.piece)),(⟨n5,8,none⟩,(.I o.sk)),(⟨n5,9,none⟩,(.I o.sv)),(⟨n5,10,none⟩,(.I o.sa))] [(⟨n16,0,none⟩,(.I (fieldsN o.kind))),(⟨n5,0,none⟩,(.I o.kind)),(⟨n5,1,none⟩,(.I o.dst)),(⟨n5,2,none⟩,(.I o.a)),(⟨n5,3,none⟩,(.I o.b)),(⟨n5,4,none⟩,(.I o.n)),(⟨n5,5,none⟩,(.I o.ctx)),(⟨n5,6,none⟩,(.I o.var)),(⟨n5,7,none⟩,(.I o.piece)),(⟨n5,8,none⟩,(.I o.sk)),(⟨n5,9,none⟩,(.I o.sv)),(⟨n5,10,none⟩,(.I o.sa))] hR (SX.cells_sub hM [0,1,2,3,4,5,6,7,8,9,10] (by kernel_rfl)) hnen16 hkn16 (by kernel_rfl) (by kernel_rfl) (by kernel_rfl) ?_
 clear hR hM hkn16; intro a17 w18 hR hb19 hM hkn16
 replace hB:=hB.trans (hb19.below (by omega))
 replace hkn5:=(hb19.block _ (by omega)).trans hkn5
 refine SX.list_end 5 (by kernel_rfl) ?_
 refine hK9 _ _ ?_
 refine wp_seq_k fun K20 hK20=>?_
 refine SX.qs [.ld [0],.ld []] [1,3,9] [(.e 9 (.bool ((fieldsN o.kind)==0)))] hR hM hB mix fun a21 w22 hR hb23 hB hM=>?_
 replace hkn5:=SX.blk_below hkn5 hb23
 replace hkn16:=SX.blk_below hkn16 hb23
 refine SX.cond_ ((fieldsN o.kind)==0) hR (by kernel_rfl) (fun h24=>?_) (fun h24=>?_)
 ·skip
  refine SX.qs [.ld []] [2] [(.e 2 (.bool false))] hR hM hB mix fun a25 w26 hR hb27 hB hM=>?_
  replace hkn5:=SX.blk_below hkn5 hb27
  replace hkn16:=SX.blk_below hkn16 hb27
  refine wp_ret ?_
  try simp only [Exit.then,Exit.inBlock,Nat.reduceEqDiff,↓reduceIte]
  refine SX.ret_ 2 (.bool false) Try.results127 hR (by kernel_rfl) ?_
  clear hR hM mix hK1 hzn5 hb4 hkn5 hln5 hn5 hb8 hK9 hb12 hzn16 qn5n16 hb15 hkn16 hln16 hn16 hnen16 hb19 hK20 hb23 hb27
  refine ⟨ret_bool ?_,hB⟩
  unfold P.clean
  simp only [f_zero,f_dst,f_a,f_b,f_n,f_ctx,f_bind] at *
  simp_all [Bool.and_assoc]
 ·skip
  refine wp_skip ?_
  refine hK20 _ _ ?_
  refine SX.qs [.ld [],.ld []] [1,3,4] [(.e 4 (.func (.func 153) #[] #[(.P n16)]))] hR hM hB mix fun a28 w29 hR hb30 hB hM=>?_
  replace hkn5:=SX.blk_below hkn5 hb30
  replace hkn16:=SX.blk_below hkn16 hb30
  refine SX.qf [(4,(andI (fieldsN o.kind) 1==0&&o.dst != 0)),(10,((andI (fieldsN o.kind) 1==0&&o.dst != 0)||(andI (fieldsN o.kind) 2==0&&o.a != 0))),(16,(((andI (fieldsN o.kind) 1==0&&o.dst != 0)||(andI (fieldsN o.kind) 2==0&&o.a != 0))||(andI (fieldsN o.kind) 4==0&&o.b != 0))),(22,((((andI (fieldsN o.kind) 1==0&&o.dst != 0)||(andI (fieldsN o.kind) 2==0&&o.a != 0))||(andI (fieldsN o.kind) 4==0&&o.b != 0))||(andI (fieldsN o.kind) 8==0&&o.n != 0))),(28,(((((andI (fieldsN o.kind) 1==0&&o.dst != 0)||(andI (fieldsN o.kind) 2==0&&o.a != 0))||(andI (fieldsN o.kind) 4==0&&o.b != 0))||(andI (fieldsN o.kind) 8==0&&o.n != 0))||(andI (fieldsN o.kind) 16==0&&o.ctx != 0))),(34,((((((andI (fieldsN o.kind) 1==0&&o.dst != 0)||(andI (fieldsN o.kind) 2==0&&o.a != 0))||(andI (fieldsN o.kind) 4==0&&o.b != 0))||(andI (fieldsN o.kind) 8==0&&o.n != 0))||(andI (fieldsN o.kind) 16==0&&o.ctx != 0))||(andI (fieldsN o.kind) 32==0&&o.var != 0))),(40,(((((((andI (fieldsN o.kind) 1==0&&o.dst != 0)||(andI (fieldsN o.kind) 2==0&&o.a != 0))||(andI (fieldsN o.kind) 4==0&&o.b != 0))||(andI (fieldsN o.kind) 8==0&&o.n != 0))||(andI (fieldsN o.kind) 16==0&&o.ctx != 0))||(andI (fieldsN o.kind) 32==0&&o.var != 0))||(andI (fieldsN o.kind) 32==0&&o.piece != 0))),(44,((andI (fieldsN o.kind) 32)==0))] [.ld [],.ld [],.ld [2],.cl (.bool (andI (fieldsN o.kind) 1==0&&o.dst != 0)),.ld [],.ld [],.ld [],.ld [3],.cl (.bool (andI (fieldsN o.kind) 2==0&&o.a != 0)),.pk,.ld [],.ld [],.ld [],.ld [4],.cl (.bool (andI (fieldsN o.kind) 4==0&&o.b != 0)),.pk,.ld [],.ld [],.ld [],.ld [5],.cl (.bool (andI (fieldsN o.kind) 8==0&&o.n != 0)),.pk,.ld [],.ld [],.ld [],.ld [6],.cl (.bool (andI (fieldsN o.kind) 16==0&&o.ctx != 0)),.pk,.ld [],.ld [],.ld [],.ld [7],.cl (.bool (andI (fieldsN o.kind) 32==0&&o.var != 0)),.pk,.ld [],.ld [],.ld [],.ld [8],.cl (.bool (andI (fieldsN o.kind) 32==0&&o.piece != 0)),.pk,.ld [],.ld [0],.ld [],.ld [],.ld [],.ld [],.ld [9,10,11],.ld [],.hd (.bool (!(o.sk==0&&(o.sv==0&&o.sa==0)))),.pk,.pk,.ld [],.ld []] [2] [(.e 2 (.bool (!((((((((andI (fieldsN o.kind) 1==0&&o.dst != 0)||(andI (fieldsN o.kind) 2==0&&o.a != 0))||(andI (fieldsN o.kind) 4==0&&o.b != 0))||(andI (fieldsN o.kind) 8==0&&o.n != 0))||(andI (fieldsN o.kind) 16==0&&o.ctx != 0))||(andI (fieldsN o.kind) 32==0&&o.var != 0))||(andI (fieldsN o.kind) 32==0&&o.piece != 0))||(((andI (fieldsN o.kind) 32)==0)&&(!(o.sk==0&&(o.sv==0&&o.sa==0))))))))] [] [([(44,true),(40,false)],binS .neq 72 (.tmp 57) (.tmp 58) (.agg #[.I o.sk,.I o.sv,.I o.sa]) (.agg #[.I 0,.I 0,.I 0]),(.bool (!(o.sk==0&&(o.sv==0&&o.sa==0)))))] [([],153,#[(.I 1),(.I o.dst),(.P n16)],(.bool (andI (fieldsN o.kind) 1==0&&o.dst != 0))),([(4,false)],153,#[(.I 2),(.I o.a),(.P n16)],(.bool (andI (fieldsN o.kind) 2==0&&o.a != 0))),([(10,false)],153,#[(.I 4),(.I o.b),(.P n16)],(.bool (andI (fieldsN o.kind) 4==0&&o.b != 0))),([(16,false)],153,#[(.I 8),(.I o.n),(.P n16)],(.bool (andI (fieldsN o.kind) 8==0&&o.n != 0))),([(22,false)],153,#[(.I 16),(.I o.ctx),(.P n16)],(.bool (andI (fieldsN o.kind) 16==0&&o.ctx != 0))),([(28,false)],153,#[(.I 32),(.I o.var),(.P n16)],(.bool (andI (fieldsN o.kind) 32==0&&o.var != 0))),([(34,false)],153,#[(.I 32),(.I o.piece),(.P n16)],(.bool (andI (fieldsN o.kind) 32==0&&o.piece != 0)))] [] hR hM hB mix trivial trivial (fun w' hb' hM'=>⟨fun hg=>src_ne _ _ _ _ _ _,trivial⟩) (fun w' hb' hM'=>⟨fun hg=>clean1_any _ _ _ _ _ (hM' (⟨n16,0,none⟩,(.I (fieldsN o.kind))) (SX.mget_mem (i:=0) (by kernel_rfl))),fun hg=>clean1_any _ _ _ _ _ (hM' (⟨n16,0,none⟩,(.I (fieldsN o.kind))) (SX.mget_mem (i:=0) (by kernel_rfl))),fun hg=>clean1_any _ _ _ _ _ (hM' (⟨n16,0,none⟩,(.I (fieldsN o.kind))) (SX.mget_mem (i:=0) (by kernel_rfl))),fun hg=>clean1_any _ _ _ _ _ (hM' (⟨n16,0,none⟩,(.I (fieldsN o.kind))) (SX.mget_mem (i:=0) (by kernel_rfl))),fun hg=>clean1_any _ _ _ _ _ (hM' (⟨n16,0,none⟩,(.I (fieldsN o.kind))) (SX.mget_mem (i:=0) (by kernel_rfl))),fun hg=>clean1_any _ _ _ _ _ (hM' (⟨n16,0,none⟩,(.I (fieldsN o.kind))) (SX.mget_mem (i:=0) (by kernel_rfl))),fun hg=>clean1_any _ _ _ _ _ (hM' (⟨n16,0,none⟩,(.I (fieldsN o.kind))) (SX.mget_mem (i:=0) (by kernel_rfl))),trivial⟩) fun a31 w32 hR hb33 hB hM=>?_
  replace hkn5:=SX.blk_below hkn5 hb33
  replace hkn16:=SX.blk_below hkn16 hb33
  refine wp_ret ?_
  try simp only [Exit.then,Exit.inBlock,Nat.reduceEqDiff,↓reduceIte]
  refine SX.ret_ 2 (.bool (!((((((((andI (fieldsN o.kind) 1==0&&o.dst != 0)||(andI (fieldsN o.kind) 2==0&&o.a != 0))||(andI (fieldsN o.kind) 4==0&&o.b != 0))||(andI (fieldsN o.kind) 8==0&&o.n != 0))||(andI (fieldsN o.kind) 16==0&&o.ctx != 0))||(andI (fieldsN o.kind) 32==0&&o.var != 0))||(andI (fieldsN o.kind) 32==0&&o.piece != 0))||(((andI (fieldsN o.kind) 32)==0)&&(!(o.sk==0&&(o.sv==0&&o.sa==0))))))) Try.results127 hR (by kernel_rfl) ?_
  clear hR hM mix hK1 hzn5 hb4 hkn5 hln5 hn5 hb8 hK9 hb12 hzn16 qn5n16 hb15 hkn16 hln16 hn16 hnen16 hb19 hK20 hb23 hb30 hb33
  refine ⟨ret_bool ?_,hB⟩
  unfold P.clean
  simp only [f_zero,f_dst,f_a,f_b,f_n,f_ctx,f_bind] at *
  simp_all [Bool.and_assoc]

def rightOpD (c:CodeD) (ps:Int) (D:List (Int × Int)) (o:OpD) (i:Int):Bool :=
 if ((andI (fieldsN o.kind) 2 != 0&&!hasD ps D o.a i)||(andI (fieldsN o.kind) 4 != 0&&!hasD ps D o.b i))||(andI (fieldsN o.kind) 16 != 0&&!P.within o.ctx ((c.contexts.length:Int)-1)) then false
 else if o.kind==15 then P.within o.n ((c.objects.length:Int)-1) else if o.kind==16 then P.within o.n ((c.objects.length:Int)-1) else if o.kind==17 then P.within o.n ((c.objects.length:Int)-1)
 else if o.kind==19 then P.within o.n 9999 else if o.kind==20 then P.within o.n 9999
 else true

set_option maxHeartbeats 400000 in
theorem rightOp_any (c:CodeD) (v1 v2 v3:Value) (w:World) (h:CodeAt w v1 v2 v3 c) (o:OpD) (i:Int) (ps:Int) (mb:Nat) (D:List (Int × Int)) (hp:0≤ps∧ps≤999) (hD:MapI w mb D):Calls Try.prog 128 #[(.agg #[.I c.params,v1,v2,v3]),(.agg #[.I ps,.map (some mb)]),(.agg #[.I o.kind,.I o.dst,.I o.a,.I o.b,.I o.n,.I o.ctx,.I o.var,.I o.piece,.I o.sk,.I o.sv,.I o.sa]),.I i] w fun e w'=>e=.returned (.bool (rightOpD c ps D o i))∧Below w.heap.size w w':=by
 have h0:=h
 obtain ⟨A1,k1,rfl,s1⟩:=h.2.1.shape
 obtain ⟨A2,k2,rfl,s2⟩:=h.2.2.1.shape
 obtain ⟨A3,k3,rfl,s3⟩:=h.2.2.2.shape
 unfold Shape at s1 s2 s3
 have mix:=mixed
 have hB:Below w.heap.size w w:=Below.refl _ _
 have hM:SX.Cells w []:=SX.cells_nil
 refine SX.enter [(.agg #[.I c.params,.slice A1 c.blocks.length k1,.slice A2 c.contexts.length k2,.slice A3 c.objects.length k3]),(.agg #[.I ps,.map (some mb)]),(.agg #[.I o.kind,.I o.dst,.I o.a,.I o.b,.I o.n,.I o.ctx,.I o.var,.I o.piece,.I o.sk,.I o.sv,.I o.sa]),(.I i)] 71 Try.func128 rfl rfl (by kernel_rfl) ?_
 intro a hR
 refine wp_seq_k fun K1 hK1=>?_
 refine SX.region_l ?_
 obtain ⟨n5,hn5⟩:∃ n,w.heap.size=n:=⟨_,rfl⟩
 have hzn5:w.heap.size≤n5:=by have:=hB.size; omega
 refine SX.list_box 0 n5 [(.I c.params),(.slice A1 c.blocks.length k1),(.slice A2 c.contexts.length k2),(.slice A3 c.objects.length k3)] 26 ((.e 4 (.P n5))::[(.e 0 (.agg #[.I c.params,.slice A1 c.blocks.length k1,.slice A2 c.contexts.length k2,.slice A3 c.objects.length k3])),(.e 1 (.agg #[.I ps,.map (some mb)])),(.e 2 (.agg #[.I o.kind,.I o.dst,.I o.a,.I o.b,.I o.n,.I o.ctx,.I o.var,.I o.piece,.I o.sk,.I o.sv,.I o.sa])),(.e 3 (.I i))]) [(⟨n5,0,none⟩,(.I c.params)),(⟨n5,1,none⟩,(.slice A1 c.blocks.length k1)),(⟨n5,2,none⟩,(.slice A2 c.contexts.length k2)),(⟨n5,3,none⟩,(.slice A3 c.objects.length k3))] hR hM hn5 (by kernel_rfl) (by kernel_rfl) ?_
 clear hR hM; intro a2 w3 hR hb4 hM hkn5 hln5
 replace hB:=hB.tr hb4
 replace hR:SX.RSt 71 [] [(.e 1 (.agg #[.I ps,.map (some mb)])),(.e 2 (.agg #[.I o.kind,.I o.dst,.I o.a,.I o.b,.I o.n,.I o.ctx,.I o.var,.I o.piece,.I o.sk,.I o.sv,.I o.sa])),(.e 3 (.I i)),(.e 4 (.P n5))] a2:=hR.keep (ts:=[1,2,3,4]) (by kernel_rfl)
 obtain ⟨n9,hn9⟩:∃ n,w3.heap.size=n:=⟨_,rfl⟩
 have hzn9:w.heap.size≤n9:=by have:=hB.size; omega
 have qn5n9:n5<n9:=by have:=(Array.getElem?_eq_some_iff.1 hkn5).1; omega
 refine SX.list_box 1 n9 [(.I ps),(.map (some mb))] 183 ((.e 5 (.P n9))::[(.e 1 (.agg #[.I ps,.map (some mb)])),(.e 2 (.agg #[.I o.kind,.I o.dst,.I o.a,.I o.b,.I o.n,.I o.ctx,.I o.var,.I o.piece,.I o.sk,.I o.sv,.I o.sa])),(.e 3 (.I i)),(.e 4 (.P n5))]) [(⟨n9,0,none⟩,(.I ps)),(⟨n9,1,none⟩,(.map (some mb))),(⟨n5,0,none⟩,(.I c.params)),(⟨n5,1,none⟩,(.slice A1 c.blocks.length k1)),(⟨n5,2,none⟩,(.slice A2 c.contexts.length k2)),(⟨n5,3,none⟩,(.slice A3 c.objects.length k3))] hR hM hn9 (by kernel_rfl) (by kernel_rfl) ?_
 clear hR hM; intro a6 w7 hR hb8 hM hkn9 hln9
 replace hB:=hB.tr hb8
 replace hkn5:=SX.blk_below hkn5 hb8
 replace hR:SX.RSt 71 [] [(.e 2 (.agg #[.I o.kind,.I o.dst,.I o.a,.I o.b,.I o.n,.I o.ctx,.I o.var,.I o.piece,.I o.sk,.I o.sv,.I o.sa])),(.e 3 (.I i)),(.e 4 (.P n5)),(.e 5 (.P n9))] a6:=hR.keep (ts:=[2,3,4,5]) (by kernel_rfl)
 obtain ⟨n13,hn13⟩:∃ n,w7.heap.size=n:=⟨_,rfl⟩
 have hzn13:w.heap.size≤n13:=by have:=hB.size; omega
 have qn5n13:n5<n13:=by have:=(Array.getElem?_eq_some_iff.1 hkn5).1; omega
 have qn9n13:n9<n13:=by have:=(Array.getElem?_eq_some_iff.1 hkn9).1; omega
 refine SX.list_box 2 n13 [(.I o.kind),(.I o.dst),(.I o.a),(.I o.b),(.I o.n),(.I o.ctx),(.I o.var),(.I o.piece),(.I o.sk),(.I o.sv),(.I o.sa)] 74 ((.e 6 (.P n13))::[(.e 2 (.agg #[.I o.kind,.I o.dst,.I o.a,.I o.b,.I o.n,.I o.ctx,.I o.var,.I o.piece,.I o.sk,.I o.sv,.I o.sa])),(.e 3 (.I i)),(.e 4 (.P n5)),(.e 5 (.P n9))]) [(⟨n13,0,none⟩,(.I o.kind)),(⟨n13,1,none⟩,(.I o.dst)),(⟨n13,2,none⟩,(.I o.a)),(⟨n13,3,none⟩,(.I o.b)),(⟨n13,4,none⟩,(.I o.n)),(⟨n13,5,none⟩,(.I o.ctx)),(⟨n13,6,none⟩,(.I o.var)),(⟨n13,7,none⟩,(.I o.piece)),(⟨n13,8,none⟩,(.I o.sk)),(⟨n13,9,none⟩,(.I o.sv)),(⟨n13,10,none⟩,(.I o.sa)),(⟨n9,0,none⟩,(.I ps)),(⟨n9,1,none⟩,(.map (some mb))),(⟨n5,0,none⟩,(.I c.params)),(⟨n5,1,none⟩,(.slice A1 c.blocks.length k1)),(⟨n5,2,none⟩,(.slice A2 c.contexts.length k2)),(⟨n5,3,none⟩,(.slice A3 c.objects.length k3))] hR hM hn13 (by kernel_rfl) (by kernel_rfl) ?_
 clear hR hM; intro a10 w11 hR hb12 hM hkn13 hln13
 replace hB:=hB.tr hb12
 replace hkn5:=SX.blk_below hkn5 hb12
 replace hkn9:=SX.blk_below hkn9 hb12
 replace hR:SX.RSt 71 [] [(.e 3 (.I i)),(.e 4 (.P n5)),(.e 5 (.P n9)),(.e 6 (.P n13))] a10:=hR.keep (ts:=[3,4,5,6]) (by kernel_rfl)
 refine SX.list_q0 (κ:=[]) 3 1 [.ld []] [3,4,5,6] [(.e 3 (.I i)),(.e 4 (.P n5)),(.e 5 (.P n9)),(.e 6 (.P n13))] hR hM (by kernel_rfl) (by kernel_rfl) ?_
 clear hR hM; intro a14 w15 hR hb16 hM
 replace hB:=hB.tr hb16
 replace hkn5:=SX.blk_below hkn5 hb16
 replace hkn9:=SX.blk_below hkn9 hb16
 replace hkn13:=SX.blk_below hkn13 hb16
 refine SX.list_end 4 (by kernel_rfl) ?_
 refine hK1 _ _ ?_
 refine SX.qf [] [.ld [],.ld [0],.cl (.I (fieldsN o.kind)),.ld []] [3,4,5,6,9] [(.e 9 (.I (fieldsN o.kind)))] [] [] [([],126,#[(.I o.kind)],(.I (fieldsN o.kind)))] [] hR hM hB mix trivial trivial (fun w' hb' hM'=>trivial) (fun w' hb' hM'=>⟨fun hg=>SX.pureC (fields_any _ _),trivial⟩) fun a17 w18 hR hb19 hB hM=>?_
 replace hkn5:=SX.blk_below hkn5 hb19
 replace hkn9:=SX.blk_below hkn9 hb19
 replace hkn13:=SX.blk_below hkn13 hb19
 refine wp_seq_k fun K20 hK20=>?_
 refine SX.qf [(3,((andI (fieldsN o.kind) 2) != 0)),(11,(((andI (fieldsN o.kind) 2) != 0)&&(!(hasD ps D o.a i)))),(15,((andI (fieldsN o.kind) 4) != 0)),(24,((((andI (fieldsN o.kind) 2) != 0)&&(!(hasD ps D o.a i)))||(((andI (fieldsN o.kind) 4) != 0)&&(!(hasD ps D o.b i))))),(28,((andI (fieldsN o.kind) 16) != 0))] [.ld [],.ld [],.ld [],.ld [],.ld [11,12],.ld [],.ld [2],.ld [],.cl (.bool (hasD ps D o.a i)),.ld [],.pk,.ld [],.ld [],.ld [],.ld [],.ld [],.ld [11,12],.ld [],.ld [3],.ld [],.cl (.bool (hasD ps D o.b i)),.ld [],.pk,.pk,.ld [],.ld [],.ld [],.ld [],.ld [],.ld [],.ld [5],.ld [],.ld [15],.ld [],.nm (.I ((c.contexts.length:Int)-1)),.cl (.bool (P.within o.ctx ((c.contexts.length:Int)-1))),.ld [],.pk,.pk] [4,6,51] [(.e 51 (.bool (((((andI (fieldsN o.kind) 2) != 0)&&(!(hasD ps D o.a i)))||(((andI (fieldsN o.kind) 4) != 0)&&(!(hasD ps D o.b i))))||(((andI (fieldsN o.kind) 16) != 0)&&(!(P.within o.ctx ((c.contexts.length:Int)-1)))))))] [] [] [([(3,true)],154,#[(.agg #[.I ps,.map (some mb)]),(.I o.a),(.I i)],(.bool (hasD ps D o.a i))),([(15,true),(11,false)],154,#[(.agg #[.I ps,.map (some mb)]),(.I o.b),(.I i)],(.bool (hasD ps D o.b i))),([(28,true),(24,false)],84,#[(.I o.ctx),(.I ((c.contexts.length:Int)-1))],(.bool (P.within o.ctx ((c.contexts.length:Int)-1))))] [([(28,true),(24,false)],(.I (IntKind.i64.wrap ((c.contexts.length:Int)-1))),(.I ((c.contexts.length:Int)-1)))] hR hM hB mix trivial ⟨fun hg=>SX.wrap_ok (by omega),trivial⟩ (fun w' hb' hM'=>trivial) (fun w' hb' hM'=>⟨fun hg=>sc_has _ _ _ _ _ _ hp (hD.below (hB.tr hb')),fun hg=>sc_has _ _ _ _ _ _ hp (hD.below (hB.tr hb')),fun hg=>SX.pureC (within_any _ _ _),trivial⟩) fun a21 w22 hR hb23 hB hM=>?_
 replace hkn5:=SX.blk_below hkn5 hb23
 replace hkn9:=SX.blk_below hkn9 hb23
 replace hkn13:=SX.blk_below hkn13 hb23
 refine SX.cond_ (((((andI (fieldsN o.kind) 2) != 0)&&(!(hasD ps D o.a i)))||(((andI (fieldsN o.kind) 4) != 0)&&(!(hasD ps D o.b i))))||(((andI (fieldsN o.kind) 16) != 0)&&(!(P.within o.ctx ((c.contexts.length:Int)-1))))) hR (by kernel_rfl) (fun h24=>?_) (fun h24=>?_)
 ·skip
  refine SX.qs [.ld []] [8] [(.e 8 (.bool false))] hR hM hB mix fun a25 w26 hR hb27 hB hM=>?_
  replace hkn5:=SX.blk_below hkn5 hb27
  replace hkn9:=SX.blk_below hkn9 hb27
  replace hkn13:=SX.blk_below hkn13 hb27
  refine wp_ret ?_
  try simp only [Exit.then,Exit.inBlock,Nat.reduceEqDiff,↓reduceIte]
  refine SX.ret_ 8 (.bool false) Try.results128 hR (by kernel_rfl) ?_
  clear hR hM mix hK1 hzn5 hb4 hkn5 hln5 hn5 hzn9 qn5n9 hb8 hkn9 hln9 hn9 hzn13 qn5n13 qn9n13 hb12 hkn13 hln13 hn13 hb16 hb19 hK20 hb23 hb27
  refine ⟨ret_bool ?_,hB⟩
  unfold rightOpD
  simp only [h24,Bool.false_eq_true,↓reduceIte]
  try rfl
 ·skip
  refine wp_skip ?_
  refine hK20 _ _ ?_
  refine wp_seq_k fun K28 hK28=>?_
  refine SX.qs [.ld [],.ld [0]] [4,6,53] [(.e 53 (.I o.kind))] hR hM hB mix fun a29 w30 hR hb31 hB hM=>?_
  replace hkn5:=SX.blk_below hkn5 hb31
  replace hkn9:=SX.blk_below hkn9 hb31
  replace hkn13:=SX.blk_below hkn13 hb31
  refine wp_block ?_
  refine wp_seq_k fun K32 hK32=>?_
  refine SX.qs [.ld [],.ld []] [4,6,53,54] [(.e 54 (.bool (o.kind==15)))] hR hM hB mix fun a33 w34 hR hb35 hB hM=>?_
  replace hkn5:=SX.blk_below hkn5 hb35
  replace hkn9:=SX.blk_below hkn9 hb35
  replace hkn13:=SX.blk_below hkn13 hb35
  refine SX.cond_ (o.kind==15) hR (by kernel_rfl) (fun h36=>?_) (fun h36=>?_)
  ·skip
   refine wp_skip ?_
   refine hK32 _ _ ?_
   refine SX.cond_ (o.kind==15) hR (by kernel_rfl) (fun h37=>?_) (fun h37=>nomatch (h36.symm.trans h37))
   refine SX.qf [] [.ld [],.ld [4],.ld [],.ld [16],.ld [],.nm (.I ((c.objects.length:Int)-1)),.cl (.bool (P.within o.n ((c.objects.length:Int)-1))),.ld []] [8] [(.e 8 (.bool (P.within o.n ((c.objects.length:Int)-1))))] [] [] [([],84,#[(.I o.n),(.I ((c.objects.length:Int)-1))],(.bool (P.within o.n ((c.objects.length:Int)-1))))] [([],(.I (IntKind.i64.wrap ((c.objects.length:Int)-1))),(.I ((c.objects.length:Int)-1)))] hR hM hB mix trivial ⟨fun hg=>SX.wrap_ok (by omega),trivial⟩ (fun w' hb' hM'=>trivial) (fun w' hb' hM'=>⟨fun hg=>SX.pureC (within_any _ _ _),trivial⟩) fun a38 w39 hR hb40 hB hM=>?_
   replace hkn5:=SX.blk_below hkn5 hb40
   replace hkn9:=SX.blk_below hkn9 hb40
   replace hkn13:=SX.blk_below hkn13 hb40
   refine wp_ret ?_
   try simp only [Exit.then,Exit.inBlock,Nat.reduceEqDiff,↓reduceIte]
   refine SX.ret_ 8 (.bool (P.within o.n ((c.objects.length:Int)-1))) Try.results128 hR (by kernel_rfl) ?_
   clear hR hM mix hK1 hzn5 hb4 hkn5 hln5 hn5 hzn9 qn5n9 hb8 hkn9 hln9 hn9 hzn13 qn5n13 qn9n13 hb12 hkn13 hln13 hn13 hb16 hb19 hK20 hb23 hK28 hb31 hK32 hb35 hb40
   refine ⟨ret_bool ?_,hB⟩
   unfold rightOpD
   simp only [h24,h36,Bool.false_eq_true,↓reduceIte]
   try rfl
  ·skip
   refine SX.qs [.ld [],.ld []] [4,6,53,54] [(.e 54 (.bool (o.kind==16)))] hR hM hB mix fun a41 w42 hR hb43 hB hM=>?_
   replace hkn5:=SX.blk_below hkn5 hb43
   replace hkn9:=SX.blk_below hkn9 hb43
   replace hkn13:=SX.blk_below hkn13 hb43
   refine SX.cond_ (o.kind==16) hR (by kernel_rfl) (fun h44=>?_) (fun h44=>?_)
   ·skip
    refine wp_skip ?_
    refine hK32 _ _ ?_
    refine SX.cond_ (o.kind==16) hR (by kernel_rfl) (fun h45=>?_) (fun h45=>nomatch (h44.symm.trans h45))
    refine SX.qf [] [.ld [],.ld [4],.ld [],.ld [16],.ld [],.nm (.I ((c.objects.length:Int)-1)),.cl (.bool (P.within o.n ((c.objects.length:Int)-1))),.ld []] [8] [(.e 8 (.bool (P.within o.n ((c.objects.length:Int)-1))))] [] [] [([],84,#[(.I o.n),(.I ((c.objects.length:Int)-1))],(.bool (P.within o.n ((c.objects.length:Int)-1))))] [([],(.I (IntKind.i64.wrap ((c.objects.length:Int)-1))),(.I ((c.objects.length:Int)-1)))] hR hM hB mix trivial ⟨fun hg=>SX.wrap_ok (by omega),trivial⟩ (fun w' hb' hM'=>trivial) (fun w' hb' hM'=>⟨fun hg=>SX.pureC (within_any _ _ _),trivial⟩) fun a46 w47 hR hb48 hB hM=>?_
    replace hkn5:=SX.blk_below hkn5 hb48
    replace hkn9:=SX.blk_below hkn9 hb48
    replace hkn13:=SX.blk_below hkn13 hb48
    refine wp_ret ?_
    try simp only [Exit.then,Exit.inBlock,Nat.reduceEqDiff,↓reduceIte]
    refine SX.ret_ 8 (.bool (P.within o.n ((c.objects.length:Int)-1))) Try.results128 hR (by kernel_rfl) ?_
    clear hR hM mix hK1 hzn5 hb4 hkn5 hln5 hn5 hzn9 qn5n9 hb8 hkn9 hln9 hn9 hzn13 qn5n13 qn9n13 hb12 hkn13 hln13 hn13 hb16 hb19 hK20 hb23 hK28 hb31 hK32 hb35 hb43 hb48
    refine ⟨ret_bool ?_,hB⟩
    unfold rightOpD
    simp only [h24,h36,h44,Bool.false_eq_true,↓reduceIte]
    try rfl
   ·skip
    refine SX.qs0 [.ld [],.ld []] [4,6,53,54] [(.e 54 (.bool (o.kind==17)))] hR hM hB mix fun a49 w50 hR hb51 hB hM=>?_
    replace hkn5:=SX.blk_below hkn5 hb51
    replace hkn9:=SX.blk_below hkn9 hb51
    replace hkn13:=SX.blk_below hkn13 hb51
    refine hK32 _ _ ?_
    refine SX.cond_ (o.kind==17) hR (by kernel_rfl) (fun h52=>?_) (fun h52=>?_)
    ·skip
     refine SX.qf [] [.ld [],.ld [4],.ld [],.ld [16],.ld [],.nm (.I ((c.objects.length:Int)-1)),.cl (.bool (P.within o.n ((c.objects.length:Int)-1))),.ld []] [8] [(.e 8 (.bool (P.within o.n ((c.objects.length:Int)-1))))] [] [] [([],84,#[(.I o.n),(.I ((c.objects.length:Int)-1))],(.bool (P.within o.n ((c.objects.length:Int)-1))))] [([],(.I (IntKind.i64.wrap ((c.objects.length:Int)-1))),(.I ((c.objects.length:Int)-1)))] hR hM hB mix trivial ⟨fun hg=>SX.wrap_ok (by omega),trivial⟩ (fun w' hb' hM'=>trivial) (fun w' hb' hM'=>⟨fun hg=>SX.pureC (within_any _ _ _),trivial⟩) fun a53 w54 hR hb55 hB hM=>?_
     replace hkn5:=SX.blk_below hkn5 hb55
     replace hkn9:=SX.blk_below hkn9 hb55
     replace hkn13:=SX.blk_below hkn13 hb55
     refine wp_ret ?_
     try simp only [Exit.then,Exit.inBlock,Nat.reduceEqDiff,↓reduceIte]
     refine SX.ret_ 8 (.bool (P.within o.n ((c.objects.length:Int)-1))) Try.results128 hR (by kernel_rfl) ?_
     clear hR hM mix hK1 hzn5 hb4 hkn5 hln5 hn5 hzn9 qn5n9 hb8 hkn9 hln9 hn9 hzn13 qn5n13 qn9n13 hb12 hkn13 hln13 hn13 hb16 hb19 hK20 hb23 hK28 hb31 hK32 hb35 hb43 hb51 hb55
     refine ⟨ret_bool ?_,hB⟩
     unfold rightOpD
     simp only [h24,h36,h44,h52,Bool.false_eq_true,↓reduceIte]
     try rfl
    ·skip
     refine wp_seq_k fun K56 hK56=>?_
     refine SX.qs [.ld [],.ld []] [6,53,65] [(.e 65 (.bool (o.kind==19)))] hR hM hB mix fun a57 w58 hR hb59 hB hM=>?_
     replace hkn5:=SX.blk_below hkn5 hb59
     replace hkn9:=SX.blk_below hkn9 hb59
     replace hkn13:=SX.blk_below hkn13 hb59
     refine SX.cond_ (o.kind==19) hR (by kernel_rfl) (fun h60=>?_) (fun h60=>?_)
     ·skip
      refine wp_skip ?_
      refine hK56 _ _ ?_
      refine SX.cond_ (o.kind==19) hR (by kernel_rfl) (fun h61=>?_) (fun h61=>nomatch (h60.symm.trans h61))
      refine SX.qf [] [.ld [],.ld [4],.cl (.bool (P.within o.n 9999)),.ld []] [8] [(.e 8 (.bool (P.within o.n 9999)))] [] [] [([],84,#[(.I o.n),(.I 9999)],(.bool (P.within o.n 9999)))] [] hR hM hB mix trivial trivial (fun w' hb' hM'=>trivial) (fun w' hb' hM'=>⟨fun hg=>SX.pureC (within_any _ _ _),trivial⟩) fun a62 w63 hR hb64 hB hM=>?_
      replace hkn5:=SX.blk_below hkn5 hb64
      replace hkn9:=SX.blk_below hkn9 hb64
      replace hkn13:=SX.blk_below hkn13 hb64
      refine wp_ret ?_
      try simp only [Exit.then,Exit.inBlock,Nat.reduceEqDiff,↓reduceIte]
      refine SX.ret_ 8 (.bool (P.within o.n 9999)) Try.results128 hR (by kernel_rfl) ?_
      clear hR hM mix hK1 hzn5 hb4 hkn5 hln5 hn5 hzn9 qn5n9 hb8 hkn9 hln9 hn9 hzn13 qn5n13 qn9n13 hb12 hkn13 hln13 hn13 hb16 hb19 hK20 hb23 hK28 hb31 hK32 hb35 hb43 hb51 hK56 hb59 hb64
      refine ⟨ret_bool ?_,hB⟩
      unfold rightOpD
      simp only [h24,h36,h44,h52,h60,Bool.false_eq_true,↓reduceIte]
      try rfl
     ·skip
      refine SX.qs0 [.ld [],.ld []] [6,65] [(.e 65 (.bool (o.kind==20)))] hR hM hB mix fun a65 w66 hR hb67 hB hM=>?_
      replace hkn5:=SX.blk_below hkn5 hb67
      replace hkn9:=SX.blk_below hkn9 hb67
      replace hkn13:=SX.blk_below hkn13 hb67
      refine hK56 _ _ ?_
      refine SX.cond_ (o.kind==20) hR (by kernel_rfl) (fun h68=>?_) (fun h68=>?_)
      ·skip
       refine SX.qf [] [.ld [],.ld [4],.cl (.bool (P.within o.n 9999)),.ld []] [8] [(.e 8 (.bool (P.within o.n 9999)))] [] [] [([],84,#[(.I o.n),(.I 9999)],(.bool (P.within o.n 9999)))] [] hR hM hB mix trivial trivial (fun w' hb' hM'=>trivial) (fun w' hb' hM'=>⟨fun hg=>SX.pureC (within_any _ _ _),trivial⟩) fun a69 w70 hR hb71 hB hM=>?_
       replace hkn5:=SX.blk_below hkn5 hb71
       replace hkn9:=SX.blk_below hkn9 hb71
       replace hkn13:=SX.blk_below hkn13 hb71
       refine wp_ret ?_
       try simp only [Exit.then,Exit.inBlock,Nat.reduceEqDiff,↓reduceIte]
       refine SX.ret_ 8 (.bool (P.within o.n 9999)) Try.results128 hR (by kernel_rfl) ?_
       clear hR hM mix hK1 hzn5 hb4 hkn5 hln5 hn5 hzn9 qn5n9 hb8 hkn9 hln9 hn9 hzn13 qn5n13 qn9n13 hb12 hkn13 hln13 hn13 hb16 hb19 hK20 hb23 hK28 hb31 hK32 hb35 hb43 hb51 hK56 hb59 hb67 hb71
       refine ⟨ret_bool ?_,hB⟩
       unfold rightOpD
       simp only [h24,h36,h44,h52,h60,h68,Bool.false_eq_true,↓reduceIte]
       try rfl
      ·skip
       refine wp_skip ?_
       refine hK28 _ _ ?_
       refine SX.qs [.ld []] [8] [(.e 8 (.bool true))] hR hM hB mix fun a72 w73 hR hb74 hB hM=>?_
       replace hkn5:=SX.blk_below hkn5 hb74
       replace hkn9:=SX.blk_below hkn9 hb74
       replace hkn13:=SX.blk_below hkn13 hb74
       refine wp_ret ?_
       try simp only [Exit.then,Exit.inBlock,Nat.reduceEqDiff,↓reduceIte]
       refine SX.ret_ 8 (.bool true) Try.results128 hR (by kernel_rfl) ?_
       clear hR hM mix hK1 hzn5 hb4 hkn5 hln5 hn5 hzn9 qn5n9 hb8 hkn9 hln9 hn9 hzn13 qn5n13 qn9n13 hb12 hkn13 hln13 hn13 hb16 hb19 hK20 hb23 hK28 hb31 hK32 hb35 hb43 hb51 hK56 hb59 hb67 hb74
       refine ⟨ret_bool ?_,hB⟩
       unfold rightOpD
       simp only [h24,h36,h44,h52,h60,h68,Bool.false_eq_true,↓reduceIte]
       try rfl
end Go.Proofs.Ytlkcidmmpeebeaa
