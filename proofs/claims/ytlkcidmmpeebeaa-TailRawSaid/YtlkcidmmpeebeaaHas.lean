/- Proved: scope.has -/
import Derived.Test.YtlkcidmmpeebeaaSxb
set_option linter.unusedVariables false
set_option linter.unusedSimpArgs false
namespace Go.Proofs.Ytlkcidmmpeebeaa
open Go.RowKit
set_option maxRecDepth 100000
set_option maxHeartbeats 400000 in
theorem sc_has (ps v n:Int) (mb:Nat) (D:List (Int × Int)) (w:World) (hp:0≤ps∧ps≤999) (hD:MapI w mb D):Calls Try.prog 154 #[(.agg #[.I ps,.map (some mb)]),(.I v),(.I n)] w fun e w'=>e=.returned (.bool (hasD ps D v n))∧Below w.heap.size w w':=by
 have mix:=mixed
 have hB:Below w.heap.size w w:=Below.refl _ _
 have hM:SX.Cells w []:=SX.cells_nil
 refine SX.enter [(.agg #[.I ps,.map (some mb)]),(.I v),(.I n)] 27 Try.func154 rfl rfl (by kernel_rfl) ?_
 intro a hR
 refine wp_seq_k fun K1 hK1=>?_
 refine SX.region_l ?_
 obtain ⟨n5,hn5⟩:∃ n,w.heap.size=n:=⟨_,rfl⟩
 have hzn5:w.heap.size≤n5:=by have:=hB.size; omega
 refine SX.list_box 0 n5 [(.I ps),(.map (some mb))] 183 ((.e 3 (.P n5))::[(.e 0 (.agg #[.I ps,.map (some mb)])),(.e 1 (.I v)),(.e 2 (.I n))]) [(⟨n5,0,none⟩,(.I ps)),(⟨n5,1,none⟩,(.map (some mb)))] hR hM hn5 (by kernel_rfl) (by kernel_rfl) ?_
 clear hR hM; intro a2 w3 hR hb4 hM hkn5 hln5
 replace hB:=hB.tr hb4
 replace hR:SX.RSt 27 [] [(.e 1 (.I v)),(.e 2 (.I n)),(.e 3 (.P n5))] a2:=hR.keep (ts:=[1,2,3]) (by kernel_rfl)
 refine SX.list_q0 (κ:=[]) 1 1 [.ld []] [1,2,3,6] [(.e 1 (.I v)),(.e 2 (.I n)),(.e 3 (.P n5)),(.e 6 (.bool false))] hR hM (by kernel_rfl) (by kernel_rfl) ?_
 clear hR hM; intro a6 w7 hR hb8 hM
 replace hB:=hB.tr hb8
 replace hkn5:=SX.blk_below hkn5 hb8
 refine SX.list_end 2 (by kernel_rfl) ?_
 refine hK1 _ _ ?_
 refine wp_seq_k fun K9 hK9=>?_
 refine wp_seq_k fun K10 hK10=>?_
 refine SX.region_q [] [.ld [],.ld [],.ld [0],.nm (.I (ps-1)),.cl (.bool (P.within v (ps-1)))] [1,2,3,6,13] [(.e 1 (.I v)),(.e 2 (.I n)),(.e 3 (.P n5)),(.e 6 (.bool false)),(.e 13 (.bool (P.within v (ps-1))))] [] [] [([],84,#[(.I v),(.I (ps-1))],(.bool (P.within v (ps-1))))] [([],(.I (IntKind.i64.wrap (ps-1))),(.I (ps-1)))] hR hM mix (by kernel_rfl) (by kernel_rfl) (by kernel_rfl) (by kernel_rfl) trivial ⟨fun hg=>SX.wrap_ok (by omega),trivial⟩ (fun w' hb' hM'=>trivial) (fun w' hb' hM'=>⟨fun hg=>SX.pureC (within_any _ _ _),trivial⟩) ?_
 clear hR hM; intro a11 w12 hR hb13 hM
 replace hB:=hB.tr hb13
 replace hkn5:=SX.blk_below hkn5 hb13
 refine hK10 _ _ ?_
 refine SX.cond_ (P.within v (ps-1)) hR (by kernel_rfl) (fun h14=>?_) (fun h14=>?_)
 ·skip
  refine wp_seq_k fun K15 hK15=>?_
  refine SX.region_q0 [.ld []] [1,2,3,6,13] [(.e 1 (.I v)),(.e 2 (.I n)),(.e 3 (.P n5)),(.e 6 (.bool true)),(.e 13 (.bool (P.within v (ps-1))))] hR hM mix (by kernel_rfl) (by kernel_rfl) (by kernel_rfl) (by kernel_rfl) ?_
  clear hR hM; intro a16 w17 hR hb18 hM
  replace hB:=hB.tr hb18
  replace hkn5:=SX.blk_below hkn5 hb18
  refine hK15 _ _ ?_
  refine wp_ret ?_
  try simp only [Exit.then,Exit.inBlock,Nat.reduceEqDiff,↓reduceIte]
  refine SX.ret_ 6 (.bool true) Try.results154 hR (by kernel_rfl) ?_
  clear hR hM mix hK1 hzn5 hb4 hkn5 hln5 hn5 hb8 hK9 hK10 hb13 hK15 hb18
  refine ⟨ret_bool ?_,hB⟩
  unfold hasD
  simp only [h14,Bool.false_eq_true,↓reduceIte]
  first | rfl | simp
 ·skip
  refine wp_skip ?_
  refine hK9 _ _ ?_
  refine wp_seq_k fun K19 hK19=>?_
  refine SX.region_q [] [.ld [],.ld [1],.ld [],.hd (.tuple #[.I ((findD D v).getD 0),.bool ((findD D v).isSome)]),.ld [],.ld [],.ld [],.ld [],.ld []] [1,2,3,6,7,8,13] [(.e 1 (.I v)),(.e 2 (.I n)),(.e 3 (.P n5)),(.e 6 (.bool false)),(.e 7 (.I ((findD D v).getD 0))),(.e 8 (.bool ((findD D v).isSome))),(.e 13 (.bool (P.within v (ps-1))))] [] [([],lookS 139 (.map (some mb)) (.I v) true,(.tuple #[.I ((findD D v).getD 0),.bool ((findD D v).isSome)]))] [] [] hR hM mix (by kernel_rfl) (by kernel_rfl) (by kernel_rfl) (by kernel_rfl) trivial trivial (fun w' hb' hM'=>⟨fun hg=>lookS_run (hD.below (hB.tr hb')) v,trivial⟩) (fun w' hb' hM'=>trivial) ?_
  clear hR hM; intro a20 w21 hR hb22 hM
  replace hB:=hB.tr hb22
  replace hkn5:=SX.blk_below hkn5 hb22
  refine hK19 _ _ ?_
  refine wp_seq_k fun K23 hK23=>?_
  refine SX.region_q [(1,(findD D v).isSome)] [.ld [],.ld [],.ld [],.ld [],.ld [],.pk,.ld []] [1,3,6,13] [(.e 1 (.I v)),(.e 3 (.P n5)),(.e 6 (.bool ((findD D v).isSome&&decide (((findD D v).getD 0)<n)))),(.e 13 (.bool (P.within v (ps-1))))] [] [] [] [] hR hM mix (by kernel_rfl) (by kernel_rfl) (by kernel_rfl) (by kernel_rfl) trivial trivial (fun w' hb' hM'=>trivial) (fun w' hb' hM'=>trivial) ?_
  clear hR hM; intro a24 w25 hR hb26 hM
  replace hB:=hB.tr hb26
  replace hkn5:=SX.blk_below hkn5 hb26
  refine hK23 _ _ ?_
  refine wp_ret ?_
  try simp only [Exit.then,Exit.inBlock,Nat.reduceEqDiff,↓reduceIte]
  refine SX.ret_ 6 (.bool ((findD D v).isSome&&decide (((findD D v).getD 0)<n))) Try.results154 hR (by kernel_rfl) ?_
  clear hR hM mix hK1 hzn5 hb4 hkn5 hln5 hn5 hb8 hK9 hK10 hb13 hK19 hb22 hK23 hb26
  refine ⟨ret_bool ?_,hB⟩
  unfold hasD
  simp only [h14,Bool.false_eq_true,↓reduceIte]
  first | rfl | simp
end Go.Proofs.Ytlkcidmmpeebeaa
