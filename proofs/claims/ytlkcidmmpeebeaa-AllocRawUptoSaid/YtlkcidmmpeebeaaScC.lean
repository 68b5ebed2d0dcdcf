/- Proved: scope.has -/
import Derived.Test.YtlkcidmmpeebeaaScA
set_option linter.unusedVariables false
set_option linter.unusedSimpArgs false
namespace Go.Proofs.Ytlkcidmmpeebeaa
open Go.RowKit
set_option maxRecDepth 100000
set_option maxHeartbeats 400000 in
theorem sc_has (ps v n:Int) (mb:Nat) (D:List (Int × Int)) (w:World) (hp:0≤ps∧ps≤999) (hD:MapI w mb D):Calls Try.prog 154 #[(.agg #[.I ps,.map (some mb)]),(.I v),(.I n)] w fun e w'=>e=.returned (.bool (hasD ps D v n))∧Below w.heap.size w w':=by
 have mix:=mixed
 have hB:Below w.heap.size w w:=Below.refl _ _
 have hM:SX.Cells w []:=SX.cells_nil
 refine SX.enter [(.agg #[.I ps,.map (some mb)]),(.I v),(.I n)] 27 Try.func154 rfl rfl (by kernel_rfl) ?_
 intro a hR
 refine wp_seq_k fun K1 hK1=>?_
 refine SX.region_l ?_
 obtain ⟨n5,hn5⟩:∃ n,w.heap.size=n:=⟨_,rfl⟩
 have hzn5:w.heap.size≤n5:=by have:=hB.size; omega
 refine SX.list_box 0 n5 [(.I ps),(.map (some mb))] 183 ((.e 3 (.P n5))::[(.e 0 (.agg #[.I ps,.map (some mb)])),(.e 1 (.I v)),(.e 2 (.I n))]) [(⟨n5,0,none⟩,(.I ps)),(⟨n5,1,none⟩,(.map (some mb)))] hR hM hn5 (by kernel_rfl) (by kernel_rfl) ?_
 clear hR hM; intro a2 w3 hR hb4 hM hkn5 hln5
 replace hB:=hB.tr hb4
 replace hR:SX.RSt 27 [] [(.e 1 (.I v)),(.e 2 (.I n)),(.e 3 (.P n5))] a2:=hR.keep (ts:=[1,2,3]) (by kernel_rfl)
 refine SX.list_q0 (κ:=[]) 1 1 [.ld []] [1,2,3] [(.e 1 (.I v)),(.e 2 (.I n)),(.e 3 (.P n5))] hR hM (by kernel_rfl) (by kernel_rfl) ?_
 clear hR hM; intro a6 w7 hR hb8 hM
 replace hB:=hB.tr hb8
 replace hkn5:=SX.blk_below hkn5 hb8
 refine SX.list_end 2 (by kernel_rfl) ?_
 refine hK1 _ _ ?_
 refine wp_seq_k fun K9 hK9=>?_
 refine SX.qf [] [.ld [],.ld [],.ld [0],.nm (.I (ps-1)),.cl (.bool (P.within v (ps-1)))] [1,2,3,13] [(.e 13 (.bool (P.within v (ps-1))))] [] [] [([],84,#[(.I v),(.I (ps-1))],(.bool (P.within v (ps-1))))] [([],(.I (IntKind.i64.wrap (ps-1))),(.I (ps-1)))] hR hM hB mix trivial ⟨fun hg=>SX.wrap_ok (by omega),trivial⟩ (fun w' hb' hM'=>trivial) (fun w' hb' hM'=>⟨fun hg=>SX.pureC (within_any _ _ _),trivial⟩) fun a10 w11 hR hb12 hB hM=>?_
 replace hkn5:=SX.blk_below hkn5 hb12
 refine SX.cond_ (P.within v (ps-1)) hR (by kernel_rfl) (fun h13=>?_) (fun h13=>?_)
 ·skip
  refine SX.qs [.ld []] [6] [(.e 6 (.bool true))] hR hM hB mix fun a14 w15 hR hb16 hB hM=>?_
  replace hkn5:=SX.blk_below hkn5 hb16
  refine wp_ret ?_
  try simp only [Exit.then,Exit.inBlock,Nat.reduceEqDiff,↓reduceIte]
  refine SX.ret_ 6 (.bool true) Try.results154 hR (by kernel_rfl) ?_
  clear hR hM mix hK1 hzn5 hb4 hkn5 hln5 hn5 hb8 hK9 hb12 hb16
  refine ⟨ret_bool ?_,hB⟩
  unfold hasD
  simp only [h13,Bool.false_eq_true,↓reduceIte]
  first | rfl | simp
 ·skip
  refine wp_skip ?_
  refine hK9 _ _ ?_
  refine SX.qf [] [.ld [],.ld [1],.ld [],.hd (.tuple #[.I ((findD D v).getD 0),.bool ((findD D v).isSome)]),.ld [],.ld [],.ld [],.ld [],.ld []] [2,7,8] [(.e 7 (.I ((findD D v).getD 0))),(.e 8 (.bool ((findD D v).isSome)))] [] [([],lookS 139 (.map (some mb)) (.I v) true,(.tuple #[.I ((findD D v).getD 0),.bool ((findD D v).isSome)]))] [] [] hR hM hB mix trivial trivial (fun w' hb' hM'=>⟨fun hg=>lookS_run (hD.below (hB.tr hb')) v,trivial⟩) (fun w' hb' hM'=>trivial) fun a17 w18 hR hb19 hB hM=>?_
  replace hkn5:=SX.blk_below hkn5 hb19
  refine SX.qf [(1,(findD D v).isSome)] [.ld [],.ld [],.ld [],.ld [],.ld [],.pk,.ld []] [6] [(.e 6 (.bool ((findD D v).isSome&&decide (((findD D v).getD 0)<n))))] [] [] [] [] hR hM hB mix trivial trivial (fun w' hb' hM'=>trivial) (fun w' hb' hM'=>trivial) fun a20 w21 hR hb22 hB hM=>?_
  replace hkn5:=SX.blk_below hkn5 hb22
  refine wp_ret ?_
  try simp only [Exit.then,Exit.inBlock,Nat.reduceEqDiff,↓reduceIte]
  refine SX.ret_ 6 (.bool ((findD D v).isSome&&decide (((findD D v).getD 0)<n))) Try.results154 hR (by kernel_rfl) ?_
  clear hR hM mix hK1 hzn5 hb4 hkn5 hln5 hn5 hb8 hK9 hb12 hb19 hb22
  refine ⟨ret_bool ?_,hB⟩
  unfold hasD
  simp only [h13,Bool.false_eq_true,↓reduceIte]
  first | rfl | simp
end Go.Proofs.Ytlkcidmmpeebeaa

/- Proved: ref06.plain -/
namespace Go.Proofs.Ytlkcidmmpeebeaa
open Go.RowKit
set_option maxRecDepth 100000
set_option maxHeartbeats 400000 in
theorem plain_any (o:OpD) (w:World):Calls Try.prog 87 #[(.agg #[.I o.kind,.I o.dst,.I o.a,.I o.b,.I o.n,.I o.ctx,.I o.var,.I o.piece,.I o.sk,.I o.sv,.I o.sa])] w fun e w'=>e=.returned (.bool (R.plain o))∧Below w.heap.size w w':=by
 have mix:=mixed
 have hB:Below w.heap.size w w:=Below.refl _ _
 have hM:SX.Cells w []:=SX.cells_nil
 refine SX.enter [(.agg #[.I o.kind,.I o.dst,.I o.a,.I o.b,.I o.n,.I o.ctx,.I o.var,.I o.piece,.I o.sk,.I o.sv,.I o.sa])] 99 Try.func87 rfl rfl (by kernel_rfl) ?_
 intro a hR
 refine wp_seq_k fun K1 hK1=>?_
 refine SX.region_l ?_
 obtain ⟨n5,hn5⟩:∃ n,w.heap.size=n:=⟨_,rfl⟩
 have hzn5:w.heap.size≤n5:=by have:=hB.size; omega
 refine SX.list_box 0 n5 [(.I o.kind),(.I o.dst),(.I o.a),(.I o.b),(.I o.n),(.I o.ctx),(.I o.var),(.I o.piece),(.I o.sk),(.I o.sv),(.I o.sa)] 74 ((.e 1 (.P n5))::[(.e 0 (.agg #[.I o.kind,.I o.dst,.I o.a,.I o.b,.I o.n,.I o.ctx,.I o.var,.I o.piece,.I o.sk,.I o.sv,.I o.sa]))]) [(⟨n5,0,none⟩,(.I o.kind)),(⟨n5,1,none⟩,(.I o.dst)),(⟨n5,2,none⟩,(.I o.a)),(⟨n5,3,none⟩,(.I o.b)),(⟨n5,4,none⟩,(.I o.n)),(⟨n5,5,none⟩,(.I o.ctx)),(⟨n5,6,none⟩,(.I o.var)),(⟨n5,7,none⟩,(.I o.piece)),(⟨n5,8,none⟩,(.I o.sk)),(⟨n5,9,none⟩,(.I o.sv)),(⟨n5,10,none⟩,(.I o.sa))] hR hM hn5 (by kernel_rfl) (by kernel_rfl) ?_
 clear hR hM; intro a2 w3 hR hb4 hM hkn5 hln5
 replace hB:=hB.tr hb4
 replace hR:SX.RSt 99 [] [(.e 1 (.P n5))] a2:=hR.keep (ts:=[1]) (by kernel_rfl)
 refine SX.list_q0 (κ:=[]) 1 1 [.ld []] [1] [(.e 1 (.P n5))] hR hM (by kernel_rfl) (by kernel_rfl) ?_
 clear hR hM; intro a6 w7 hR hb8 hM
 replace hB:=hB.tr hb8
 replace hkn5:=SX.blk_below hkn5 hb8
 refine SX.list_end 2 (by kernel_rfl) ?_
 refine hK1 _ _ ?_
 refine SX.qs [.ld [],.ld [0],.ld []] [1,3] [(.e 3 (.I o.kind))] hR hM hB mix fun a9 w10 hR hb11 hB hM=>?_
 replace hkn5:=SX.blk_below hkn5 hb11
 refine wp_seq_k fun K12 hK12=>?_
 refine SX.qf [(3,(!(R.defines o.kind))),(8,((!(R.defines o.kind))&&(o.dst != 0))),(12,(!(R.usesA o.kind))),(18,(((!(R.defines o.kind))&&(o.dst != 0))||((!(R.usesA o.kind))&&(o.a != 0)))),(22,(!(R.usesB o.kind)))] [.ld [],.cl (.bool (R.defines o.kind)),.ld [],.ld [],.ld [],.ld [1],.ld [],.pk,.ld [],.ld [],.cl (.bool (R.usesA o.kind)),.ld [],.ld [],.ld [],.ld [2],.ld [],.pk,.pk,.ld [],.ld [],.cl (.bool (R.usesB o.kind)),.ld [],.ld [],.ld [],.ld [3],.ld [],.pk,.pk] [1,3,34] [(.e 34 (.bool ((((!(R.defines o.kind))&&(o.dst != 0))||((!(R.usesA o.kind))&&(o.a != 0)))||((!(R.usesB o.kind))&&(o.b != 0)))))] [] [] [([],90,#[(.I o.kind)],(.bool (R.defines o.kind))),([(8,false)],88,#[(.I o.kind)],(.bool (R.usesA o.kind))),([(18,false)],89,#[(.I o.kind)],(.bool (R.usesB o.kind)))] [] hR hM hB mix trivial trivial (fun w' hb' hM'=>trivial) (fun w' hb' hM'=>⟨fun hg=>SX.pureC (defines_any _ _),fun hg=>SX.pureC (usesA_any _ _),fun hg=>SX.pureC (usesB_any _ _),trivial⟩) fun a13 w14 hR hb15 hB hM=>?_
 replace hkn5:=SX.blk_below hkn5 hb15
 refine SX.cond_ ((((!(R.defines o.kind))&&(o.dst != 0))||((!(R.usesA o.kind))&&(o.a != 0)))||((!(R.usesB o.kind))&&(o.b != 0))) hR (by kernel_rfl) (fun h16=>?_) (fun h16=>?_)
 ·skip
  refine SX.qs [.ld []] [2] [(.e 2 (.bool false))] hR hM hB mix fun a17 w18 hR hb19 hB hM=>?_
  replace hkn5:=SX.blk_below hkn5 hb19
  refine wp_ret ?_
  try simp only [Exit.then,Exit.inBlock,Nat.reduceEqDiff,↓reduceIte]
  refine SX.ret_ 2 (.bool false) Try.results87 hR (by kernel_rfl) ?_
  clear hR hM mix hK1 hzn5 hb4 hkn5 hln5 hn5 hb8 hb11 hK12 hb15 hb19
  refine ⟨ret_bool ?_,hB⟩
  unfold R.plain
  simp only [h16,Bool.false_eq_true,↓reduceIte]
  try simp only [Bool.and_assoc]
 ·skip
  refine wp_skip ?_
  refine hK12 _ _ ?_
  refine SX.qf [(2,(o.kind==1)),(6,((o.kind==1)||(o.kind==15))),(10,(((o.kind==1)||(o.kind==15))||(o.kind==16))),(14,((((o.kind==1)||(o.kind==15))||(o.kind==16))||(o.kind==17))),(18,(((((o.kind==1)||(o.kind==15))||(o.kind==16))||(o.kind==17))||(o.kind==19)))] [.ld [],.ld [],.ld [],.ld [],.ld [],.pk,.ld [],.ld [],.ld [],.pk,.ld [],.ld [],.ld [],.pk,.ld [],.ld [],.ld [],.pk,.ld [],.ld [],.ld [],.pk,.ld []] [1,3,4] [(.e 4 (.bool ((((((o.kind==1)||(o.kind==15))||(o.kind==16))||(o.kind==17))||(o.kind==19))||(o.kind==20))))] [] [] [] [] hR hM hB mix trivial trivial (fun w' hb' hM'=>trivial) (fun w' hb' hM'=>trivial) fun a20 w21 hR hb22 hB hM=>?_
  replace hkn5:=SX.blk_below hkn5 hb22
  refine wp_seq_k fun K23 hK23=>?_
  refine SX.qf [(2,(!((((((o.kind==1)||(o.kind==15))||(o.kind==16))||(o.kind==17))||(o.kind==19))||(o.kind==20)))),(7,((!((((((o.kind==1)||(o.kind==15))||(o.kind==16))||(o.kind==17))||(o.kind==19))||(o.kind==20)))&&(o.n != 0))),(10,(o.kind != 19)),(14,((o.kind != 19)&&(o.kind != 20))),(18,(((o.kind != 19)&&(o.kind != 20))&&(o.kind != 21)))] [.ld [],.ld [],.ld [],.ld [],.ld [4],.ld [],.pk,.ld [],.ld [],.ld [],.ld [],.ld [],.ld [],.pk,.ld [],.ld [],.ld [],.pk,.ld [],.ld [],.ld [5],.ld [],.pk,.pk] [1,3,80] [(.e 80 (.bool (((!((((((o.kind==1)||(o.kind==15))||(o.kind==16))||(o.kind==17))||(o.kind==19))||(o.kind==20)))&&(o.n != 0))||((((o.kind != 19)&&(o.kind != 20))&&(o.kind != 21))&&(o.ctx != 0)))))] [] [] [] [] hR hM hB mix trivial trivial (fun w' hb' hM'=>trivial) (fun w' hb' hM'=>trivial) fun a24 w25 hR hb26 hB hM=>?_
  replace hkn5:=SX.blk_below hkn5 hb26
  refine SX.cond_ (((!((((((o.kind==1)||(o.kind==15))||(o.kind==16))||(o.kind==17))||(o.kind==19))||(o.kind==20)))&&(o.n != 0))||((((o.kind != 19)&&(o.kind != 20))&&(o.kind != 21))&&(o.ctx != 0))) hR (by kernel_rfl) (fun h27=>?_) (fun h27=>?_)
  ·skip
   refine SX.qs [.ld []] [2] [(.e 2 (.bool false))] hR hM hB mix fun a28 w29 hR hb30 hB hM=>?_
   replace hkn5:=SX.blk_below hkn5 hb30
   refine wp_ret ?_
   try simp only [Exit.then,Exit.inBlock,Nat.reduceEqDiff,↓reduceIte]
   refine SX.ret_ 2 (.bool false) Try.results87 hR (by kernel_rfl) ?_
   clear hR hM mix hK1 hzn5 hb4 hkn5 hln5 hn5 hb8 hb11 hK12 hb15 hb22 hK23 hb26 hb30
   refine ⟨ret_bool ?_,hB⟩
   unfold R.plain
   simp only [h16,h27,Bool.false_eq_true,↓reduceIte]
   try simp only [Bool.and_assoc]
  ·skip
   refine wp_skip ?_
   refine hK23 _ _ ?_
   refine SX.qf [(2,(o.kind==21)),(6,(o.var==0)),(11,((o.var==0)&&(o.piece==0)))] [.ld [],.ld [],.ld [],.ld [],.ld [6],.ld [],.ld [],.ld [],.ld [7],.ld [],.pk,.ld [],.ld [],.ld [8,9,10],.ld [],.hd (.bool (o.sk==0&&(o.sv==0&&o.sa==0))),.pk,.pk,.ld []] [2] [(.e 2 (.bool ((o.kind==21)||(((o.var==0)&&(o.piece==0))&&(o.sk==0&&(o.sv==0&&o.sa==0))))))] [] [([(11,true),(2,false)],binS .eql 72 (.tmp 94) (.tmp 95) (.agg #[.I o.sk,.I o.sv,.I o.sa]) (.agg #[.I 0,.I 0,.I 0]),(.bool (o.sk==0&&(o.sv==0&&o.sa==0))))] [] [] hR hM hB mix trivial trivial (fun w' hb' hM'=>⟨fun hp=>src_eq _ _ _ _ _ _,trivial⟩) (fun w' hb' hM'=>trivial) fun a31 w32 hR hb33 hB hM=>?_
   replace hkn5:=SX.blk_below hkn5 hb33
   refine wp_ret ?_
   try simp only [Exit.then,Exit.inBlock,Nat.reduceEqDiff,↓reduceIte]
   refine SX.ret_ 2 (.bool ((o.kind==21)||(((o.var==0)&&(o.piece==0))&&(o.sk==0&&(o.sv==0&&o.sa==0))))) Try.results87 hR (by kernel_rfl) ?_
   clear hR hM mix hK1 hzn5 hb4 hkn5 hln5 hn5 hb8 hb11 hK12 hb15 hb22 hK23 hb26 hb33
   refine ⟨ret_bool ?_,hB⟩
   unfold R.plain
   simp only [h16,h27,Bool.false_eq_true,↓reduceIte]
   try simp only [Bool.and_assoc]
end Go.Proofs.Ytlkcidmmpeebeaa
