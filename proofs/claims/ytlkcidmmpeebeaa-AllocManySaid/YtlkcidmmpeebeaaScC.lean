/- Proved: scope.has -/
import Derived.Test.YtlkcidmmpeebeaaScA
set_option linter.unusedVariables false
set_option linter.unusedSimpArgs false
namespace Go.Proofs.Ytlkcidmmpeebeaa
open Go.RowKit
set_option maxRecDepth 100000
set_option maxHeartbeats 400000 in
theorem sc_has (ps v n:Int) (mb:Nat) (D:List (Int × Int)) (w:World) (hp:0≤ps∧ps≤999) (hD:MapI w mb D):Calls Try.prog 154 #[(.agg #[.I ps,.map (some mb)]),(.I v),(.I n)] w fun e w'=>e=.returned (.bool (hasD ps D v n))∧Below w.heap.size w w':=by
 have mix:=mixed
 have hB:Below w.heap.size w w:=Below.refl _ _
 have hM:SX.Cells w []:=SX.cells_nil
 refine SX.enter [(.agg #[.I ps,.map (some mb)]),(.I v),(.I n)] 27 Try.func154 rfl rfl (by kernel_rfl) ?_
 intro a hR
 refine wp_seq_k fun K1 hK1=>?_
 refine SX.region_l ?_
 obtain ⟨n5,hn5⟩:∃ n,w.heap.size=n:=⟨_,rfl⟩
 have hzn5:w.heap.size≤n5:=by have:=hB.size; omega
 refine SX.list_box 0 n5 [(.I ps),(.map (some mb))] 183 ((.e 3 (.P n5))::[(.e 0 (.agg #[.I ps,.map (some mb)])),(.e 1 (.I v)),(.e 2 (.I n))]) [(⟨n5,0,none⟩,(.I ps)),(⟨n5,1,none⟩,(.map (some mb)))] hR hM hn5 (by kernel_rfl) (by kernel_rfl) ?_
 clear hR hM; intro a2 w3 hR hb4 hM hkn5 hln5
 replace hB:=hB.tr hb4
 replace hR:SX.RSt 27 [] [(.e 1 (.I v)),(.e 2 (.I n)),(.e 3 (.P n5))] a2:=hR.keep (ts:=[1,2,3]) (by kernel_rfl)
 refine SX.list_q0 (κ:=[]) 1 1 [.ld []] [1,2,3] [(.e 1 (.I v)),(.e 2 (.I n)),(.e 3 (.P n5))] hR hM (by kernel_rfl) (by kernel_rfl) ?_
 clear hR hM; intro a6 w7 hR hb8 hM
 replace hB:=hB.tr hb8
 replace hkn5:=SX.blk_below hkn5 hb8
 refine SX.list_end 2 (by kernel_rfl) ?_
 refine hK1 _ _ ?_
 refine wp_seq_k fun K9 hK9=>?_
 refine SX.qf [] [.ld [],.ld [],.ld [0],.nm (.I (ps-1)),.cl (.bool (P.within v (ps-1)))] [1,2,3,13] [(.e 13 (.bool (P.within v (ps-1))))] [] [] [([],84,#[(.I v),(.I (ps-1))],(.bool (P.within v (ps-1))))] [([],(.I (IntKind.i64.wrap (ps-1))),(.I (ps-1)))] hR hM hB mix trivial ⟨fun hg=>SX.wrap_ok (by omega),trivial⟩ (fun w' hb' hM'=>trivial) (fun w' hb' hM'=>⟨fun hg=>SX.pureC (within_any _ _ _),trivial⟩) fun a10 w11 hR hb12 hB hM=>?_
 replace hkn5:=SX.blk_below hkn5 hb12
 refine SX.cond_ (P.within v (ps-1)) hR (by kernel_rfl) (fun h13=>?_) (fun h13=>?_)
 ·skip
  refine SX.qs [.ld []] [6] [(.e 6 (.bool true))] hR hM hB mix fun a14 w15 hR hb16 hB hM=>?_
  replace hkn5:=SX.blk_below hkn5 hb16
  refine wp_ret ?_
  try simp only [Exit.then,Exit.inBlock,Nat.reduceEqDiff,↓reduceIte]
  refine SX.ret_ 6 (.bool true) Try.results154 hR (by kernel_rfl) ?_
  clear hR hM mix hK1 hzn5 hb4 hkn5 hln5 hn5 hb8 hK9 hb12 hb16
  refine ⟨ret_bool ?_,hB⟩
  unfold hasD
  simp only [h13,Bool.false_eq_true,↓reduceIte]
  first | rfl | simp
 ·skip
  refine wp_skip ?_
  refine hK9 _ _ ?_
  refine SX.qf [] [.ld [],.ld [1],.ld [],.hd (.tuple #[.I ((findD D v).getD 0),.bool ((findD D v).isSome)]),.ld [],.ld [],.ld [],.ld [],.ld []] [2,7,8] [(.e 7 (.I ((findD D v).getD 0))),(.e 8 (.bool ((findD D v).isSome)))] [] [([],lookS 139 (.map (some mb)) (.I v) true,(.tuple #[.I ((findD D v).getD 0),.bool ((findD D v).isSome)]))] [] [] hR hM hB mix trivial trivial (fun w' hb' hM'=>⟨fun hg=>lookS_run (hD.below (hB.tr hb')) v,trivial⟩) (fun w' hb' hM'=>trivial) fun a17 w18 hR hb19 hB hM=>?_
  replace hkn5:=SX.blk_below hkn5 hb19
  refine SX.qf [(1,(findD D v).isSome)] [.ld [],.ld [],.ld [],.ld [],.ld [],.pk,.ld []] [6] [(.e 6 (.bool ((findD D v).isSome&&decide (((findD D v).getD 0)<n))))] [] [] [] [] hR hM hB mix trivial trivial (fun w' hb' hM'=>trivial) (fun w' hb' hM'=>trivial) fun a20 w21 hR hb22 hB hM=>?_
  replace hkn5:=SX.blk_below hkn5 hb22
  refine wp_ret ?_
  try simp only [Exit.then,Exit.inBlock,Nat.reduceEqDiff,↓reduceIte]
  refine SX.ret_ 6 (.bool ((findD D v).isSome&&decide (((findD D v).getD 0)<n))) Try.results154 hR (by kernel_rfl) ?_
  clear hR hM mix hK1 hzn5 hb4 hkn5 hln5 hn5 hb8 hK9 hb12 hb19 hb22
  refine ⟨ret_bool ?_,hB⟩
  unfold hasD
  simp only [h13,Bool.false_eq_true,↓reduceIte]
  first | rfl | simp
end Go.Proofs.Ytlkcidmmpeebeaa

/- Proved: ref06.plain -/
namespace Go.Proofs.Ytlkcidmmpeebeaa
open Go.RowKit
set_option maxRecDepth 100000
end Go.Proofs.Ytlkcidmmpeebeaa
