/- Proved: slices.Clone,Small -/
import Derived.Test.YtlkcidmmpeebeaaBlk
import Derived.Test.YtlkcidmmpeebeaaRfCheck
set_option linter.unusedVariables false
set_option linter.unusedSimpArgs false
namespace Go.Proofs.Ytlkcidmmpeebeaa
open Go.RowKit
set_option maxRecDepth 100000
set_option maxHeartbeats 400000 in
theorem cloneC_some (a0:Addr) (cp:Nat) (xs:List (Int × Int × Int)) (w:World) (hx0:RecsAt w (.slice (some a0) xs.length cp) xs) (hlen:xs.length≤1000000):Calls Try.prog 47 #[(.slice (some a0) xs.length cp)] w (SX.Ret (fun v w'=>RecsAt w' v xs∧Fresh w.heap.size v) w):=by
 have mix:=mixed
 have hB:Below w.heap.size w w:=Below.refl _ _
 have hM:SX.Cells w []:=SX.cells_nil
 refine SX.enter [(.slice (some a0) xs.length cp)] 8 Try.func47 rfl rfl (by kernel_rfl) ?_
 intro a hR
 refine wp_seq_k fun K1 hK1=>?_
 refine SX.region_q0 [.ld []] [0] [(.e 0 (.slice (some a0) xs.length cp))] hR hM mix (by kernel_rfl) (by kernel_rfl) (by kernel_rfl) (by kernel_rfl) ?_
 clear hR hM; intro a2 w3 hR hb4 hM
 replace hB:=hB.tr hb4
 refine hK1 _ _ ?_
 refine wp_seq_k fun K5 hK5=>?_
 refine wp_seq_k fun K6 hK6=>?_
 refine SX.region_q0 [.ld [],.ld []] [0,4] [(.e 0 (.slice (some a0) xs.length cp)),(.e 4 (.bool false))] hR hM mix (by kernel_rfl) (by kernel_rfl) (by kernel_rfl) (by kernel_rfl) ?_
 clear hR hM; intro a7 w8 hR hb9 hM
 replace hB:=hB.tr hb9
 refine hK6 _ _ ?_
 refine SX.cond_ false hR (by kernel_rfl) (fun h10=>nomatch h10) (fun h10=>?_)
 refine wp_skip ?_
 refine hK5 _ _ ?_
 refine wp_seq_k fun K11 hK11=>?_
 refine SX.region_l ?_
 obtain ⟨n15,hn15⟩:∃ n,w8.heap.size=n:=⟨_,rfl⟩
 have hzn15:w.heap.size≤n15:=by have:=hB.size; omega
 refine SX.list_box 0 n15 [] 99 ((.e 5 (.slice (some ⟨n15,0,none⟩) 0 0))::[(.e 0 (.slice (some a0) xs.length cp)),(.e 4 (.bool false))]) [] hR hM hn15 (by kernel_rfl) (by kernel_rfl) ?_
 clear hR hM; intro a12 w13 hR hb14 hM hkn15 hln15
 replace hB:=hB.tr hb14
 replace hR:SX.RSt 8 [] [(.e 0 (.slice (some a0) xs.length cp)),(.e 5 (.slice (some ⟨n15,0,none⟩) 0 0))] a12:=hR.keep (ts:=[0,5]) (by kernel_rfl)
 refine SX.list_q0 (κ:=[]) 1 1 [.ld []] [5,6] [(.e 5 (.slice (some ⟨n15,0,none⟩) 0 0)),(.e 6 (.slice (some a0) xs.length cp))] hR hM (by kernel_rfl) (by kernel_rfl) ?_
 clear hR hM; intro a16 w17 hR hb18 hM
 replace hB:=hB.tr hb18
 replace hkn15:=SX.blk_below hkn15 hb18
 have hrow:=Row.empty (e:=99) 3 hkn15
 obtain ⟨v19,w20,hrun,hrow2,hgr22⟩:=app_run 23 23 24 (.agg #[.I 0,.I 0,.I 0]) ctx_info Try.underlying23 rfl (by decide) hrow a0 xs.length cp (xs.flatMap recC) (hx0.below hB).cells.len ((hx0.below hB).cells.get a0 _ _ rfl) one_rec (by omega) (by omega)
 simp only [Nat.zero_add,List.nil_append] at hrow2
 refine SX.list_run 2 (some 7) (appS 23 23 (.slice (some ⟨n15,0,none⟩) 0 0) (.slice (some a0) xs.length cp)) v19 hR (by kernel_rfl) (by kernel_rfl) hrun ?_
 clear hR hrun; intro a21 hR
 replace hB:=hB.grown hgr22 hB.size (fun g hg=>by have h1:=hrow.ge g hg; omega)
 replace hM:SX.Cells w20 []:=SX.cells_nil; clear hrow hkn15
 replace hR:SX.RSt 8 [] [(.e 7 v19)] a21:=hR.keep (ts:=[7]) (by kernel_rfl)
 refine SX.list_q0 (κ:=[]) 3 1 [.ld []] [2] [(.e 2 v19)] hR hM (by kernel_rfl) (by kernel_rfl) ?_
 clear hR hM; intro a23 w24 hR hb25 hM
 replace hB:=hB.tr hb25
 replace hrow2:=hrow2.below hb25
 refine SX.list_end 4 (by kernel_rfl) ?_
 refine hK11 _ _ ?_
 refine wp_ret ?_
 try simp only [Exit.then,Exit.inBlock,Nat.reduceEqDiff,↓reduceIte]
 refine SX.ret_ 2 v19 Try.results47 hR (by kernel_rfl) ?_
 clear hR hM mix hK1 hb4 hK5 hK6 hb9 hK11 hb14 hln15 hn15 hb18 hb25
 exact ⟨_,rfl,hB,hrow2.recs hx0.I (by omega),fun g hg=>by have:=hrow2.ge g hg; omega⟩

set_option maxHeartbeats 400000 in
theorem cloneC_nil (w:World) (hx0:RecsAt w (.slice none 0 0) []):Calls Try.prog 47 #[(.slice none 0 0)] w (SX.Ret (fun v w'=>RecsAt w' v []∧Fresh w.heap.size v) w):=by
 have mix:=mixed
 have hB:Below w.heap.size w w:=Below.refl _ _
 have hM:SX.Cells w []:=SX.cells_nil
 refine SX.enter [(.slice none 0 0)] 8 Try.func47 rfl rfl (by kernel_rfl) ?_
 intro a hR
 refine wp_seq_k fun K1 hK1=>?_
 refine SX.region_q0 [.ld []] [0] [(.e 0 (.slice none 0 0))] hR hM mix (by kernel_rfl) (by kernel_rfl) (by kernel_rfl) (by kernel_rfl) ?_
 clear hR hM; intro a2 w3 hR hb4 hM
 replace hB:=hB.tr hb4
 refine hK1 _ _ ?_
 refine wp_seq_k fun K5 hK5=>?_
 refine wp_seq_k fun K6 hK6=>?_
 refine SX.region_q0 [.ld [],.ld []] [0,4] [(.e 0 (.slice none 0 0)),(.e 4 (.bool true))] hR hM mix (by kernel_rfl) (by kernel_rfl) (by kernel_rfl) (by kernel_rfl) ?_
 clear hR hM; intro a7 w8 hR hb9 hM
 replace hB:=hB.tr hb9
 refine hK6 _ _ ?_
 refine SX.cond_ true hR (by kernel_rfl) (fun h10=>?_) (fun h10=>nomatch h10)
 refine wp_seq_k fun K11 hK11=>?_
 refine SX.region_q0 [.ld []] [2] [(.e 2 (.slice none 0 0))] hR hM mix (by kernel_rfl) (by kernel_rfl) (by kernel_rfl) (by kernel_rfl) ?_
 clear hR hM; intro a12 w13 hR hb14 hM
 replace hB:=hB.tr hb14
 refine hK11 _ _ ?_
 refine wp_ret ?_
 try simp only [Exit.then,Exit.inBlock,Nat.reduceEqDiff,↓reduceIte]
 refine SX.ret_ 2 (.slice none 0 0) Try.results47 hR (by kernel_rfl) ?_
 clear hR hM mix hK1 hb4 hK5 hK6 hb9 hK11 hb14
 exact ⟨_,rfl,hB,hx0.below hB,fun g hg=>by cases hg⟩

theorem cloneC_any (v:Value) (xs:List (Int × Int × Int)) (w:World) (hx:RecsAt w v xs) (hlen:xs.length≤1000000):Calls Try.prog 47 #[v] w (SX.Ret (fun v w'=>RecsAt w' v xs∧Fresh w.heap.size v) w):=by
 obtain ⟨A,cp,rfl,hs⟩:=hx.shape
 cases A with
 | none =>
  have h0:=hs.2.2 rfl
  have hn:xs.length=0:=by have:=hs.1.1; omega
  obtain rfl:=List.length_eq_zero_iff.1 hn
  subst h0
  exact cloneC_nil w hx
 | some a0=>exact cloneC_some a0 cp xs w hx hlen

set_option maxHeartbeats 400000 in
theorem cloneO_some (a0:Addr) (cp:Nat) (xs:List (Int × Int × Int)) (w:World) (hx0:RecsAt w (.slice (some a0) xs.length cp) xs) (hlen:xs.length≤1000000):Calls Try.prog 48 #[(.slice (some a0) xs.length cp)] w (SX.Ret (fun v w'=>RecsAt w' v xs∧Fresh w.heap.size v) w):=by
 have mix:=mixed
 have hB:Below w.heap.size w w:=Below.refl _ _
 have hM:SX.Cells w []:=SX.cells_nil
 refine SX.enter [(.slice (some a0) xs.length cp)] 8 Try.func48 rfl rfl (by kernel_rfl) ?_
 intro a hR
 refine wp_seq_k fun K1 hK1=>?_
 refine SX.region_q0 [.ld []] [0] [(.e 0 (.slice (some a0) xs.length cp))] hR hM mix (by kernel_rfl) (by kernel_rfl) (by kernel_rfl) (by kernel_rfl) ?_
 clear hR hM; intro a2 w3 hR hb4 hM
 replace hB:=hB.tr hb4
 refine hK1 _ _ ?_
 refine wp_seq_k fun K5 hK5=>?_
 refine wp_seq_k fun K6 hK6=>?_
 refine SX.region_q0 [.ld [],.ld []] [0,4] [(.e 0 (.slice (some a0) xs.length cp)),(.e 4 (.bool false))] hR hM mix (by kernel_rfl) (by kernel_rfl) (by kernel_rfl) (by kernel_rfl) ?_
 clear hR hM; intro a7 w8 hR hb9 hM
 replace hB:=hB.tr hb9
 refine hK6 _ _ ?_
 refine SX.cond_ false hR (by kernel_rfl) (fun h10=>nomatch h10) (fun h10=>?_)
 refine wp_skip ?_
 refine hK5 _ _ ?_
 refine wp_seq_k fun K11 hK11=>?_
 refine SX.region_l ?_
 obtain ⟨n15,hn15⟩:∃ n,w8.heap.size=n:=⟨_,rfl⟩
 have hzn15:w.heap.size≤n15:=by have:=hB.size; omega
 refine SX.list_box 0 n15 [] 102 ((.e 5 (.slice (some ⟨n15,0,none⟩) 0 0))::[(.e 0 (.slice (some a0) xs.length cp)),(.e 4 (.bool false))]) [] hR hM hn15 (by kernel_rfl) (by kernel_rfl) ?_
 clear hR hM; intro a12 w13 hR hb14 hM hkn15 hln15
 replace hB:=hB.tr hb14
 replace hR:SX.RSt 8 [] [(.e 0 (.slice (some a0) xs.length cp)),(.e 5 (.slice (some ⟨n15,0,none⟩) 0 0))] a12:=hR.keep (ts:=[0,5]) (by kernel_rfl)
 refine SX.list_q0 (κ:=[]) 1 1 [.ld []] [5,6] [(.e 5 (.slice (some ⟨n15,0,none⟩) 0 0)),(.e 6 (.slice (some a0) xs.length cp))] hR hM (by kernel_rfl) (by kernel_rfl) ?_
 clear hR hM; intro a16 w17 hR hb18 hM
 replace hB:=hB.tr hb18
 replace hkn15:=SX.blk_below hkn15 hb18
 have hrow:=Row.empty (e:=102) 3 hkn15
 obtain ⟨v19,w20,hrun,hrow2,hgr22⟩:=app_run 24 24 24 (.agg #[.I 0,.I 0,.I 0]) obj_info Try.underlying24 rfl (by decide) hrow a0 xs.length cp (xs.flatMap recC) (hx0.below hB).cells.len ((hx0.below hB).cells.get a0 _ _ rfl) one_rec (by omega) (by omega)
 simp only [Nat.zero_add,List.nil_append] at hrow2
 refine SX.list_run 2 (some 7) (appS 24 24 (.slice (some ⟨n15,0,none⟩) 0 0) (.slice (some a0) xs.length cp)) v19 hR (by kernel_rfl) (by kernel_rfl) hrun ?_
 clear hR hrun; intro a21 hR
 replace hB:=hB.grown hgr22 hB.size (fun g hg=>by have h1:=hrow.ge g hg; omega)
 replace hM:SX.Cells w20 []:=SX.cells_nil; clear hrow hkn15
 replace hR:SX.RSt 8 [] [(.e 7 v19)] a21:=hR.keep (ts:=[7]) (by kernel_rfl)
 refine SX.list_q0 (κ:=[]) 3 1 [.ld []] [2] [(.e 2 v19)] hR hM (by kernel_rfl) (by kernel_rfl) ?_
 clear hR hM; intro a23 w24 hR hb25 hM
 replace hB:=hB.tr hb25
 replace hrow2:=hrow2.below hb25
 refine SX.list_end 4 (by kernel_rfl) ?_
 refine hK11 _ _ ?_
 refine wp_ret ?_
 try simp only [Exit.then,Exit.inBlock,Nat.reduceEqDiff,↓reduceIte]
 refine SX.ret_ 2 v19 Try.results48 hR (by kernel_rfl) ?_
 clear hR hM mix hK1 hb4 hK5 hK6 hb9 hK11 hb14 hln15 hn15 hb18 hb25
 exact ⟨_,rfl,hB,hrow2.recs hx0.I (by omega),fun g hg=>by have:=hrow2.ge g hg; omega⟩

set_option maxHeartbeats 400000 in
theorem cloneO_nil (w:World) (hx0:RecsAt w (.slice none 0 0) []):Calls Try.prog 48 #[(.slice none 0 0)] w (SX.Ret (fun v w'=>RecsAt w' v []∧Fresh w.heap.size v) w):=by
 have mix:=mixed
 have hB:Below w.heap.size w w:=Below.refl _ _
 have hM:SX.Cells w []:=SX.cells_nil
 refine SX.enter [(.slice none 0 0)] 8 Try.func48 rfl rfl (by kernel_rfl) ?_
 intro a hR
 refine wp_seq_k fun K1 hK1=>?_
 refine SX.region_q0 [.ld []] [0] [(.e 0 (.slice none 0 0))] hR hM mix (by kernel_rfl) (by kernel_rfl) (by kernel_rfl) (by kernel_rfl) ?_
 clear hR hM; intro a2 w3 hR hb4 hM
 replace hB:=hB.tr hb4
 refine hK1 _ _ ?_
 refine wp_seq_k fun K5 hK5=>?_
 refine wp_seq_k fun K6 hK6=>?_
 refine SX.region_q0 [.ld [],.ld []] [0,4] [(.e 0 (.slice none 0 0)),(.e 4 (.bool true))] hR hM mix (by kernel_rfl) (by kernel_rfl) (by kernel_rfl) (by kernel_rfl) ?_
 clear hR hM; intro a7 w8 hR hb9 hM
 replace hB:=hB.tr hb9
 refine hK6 _ _ ?_
 refine SX.cond_ true hR (by kernel_rfl) (fun h10=>?_) (fun h10=>nomatch h10)
 refine wp_seq_k fun K11 hK11=>?_
 refine SX.region_q0 [.ld []] [2] [(.e 2 (.slice none 0 0))] hR hM mix (by kernel_rfl) (by kernel_rfl) (by kernel_rfl) (by kernel_rfl) ?_
 clear hR hM; intro a12 w13 hR hb14 hM
 replace hB:=hB.tr hb14
 refine hK11 _ _ ?_
 refine wp_ret ?_
 try simp only [Exit.then,Exit.inBlock,Nat.reduceEqDiff,↓reduceIte]
 refine SX.ret_ 2 (.slice none 0 0) Try.results48 hR (by kernel_rfl) ?_
 clear hR hM mix hK1 hb4 hK5 hK6 hb9 hK11 hb14
 exact ⟨_,rfl,hB,hx0.below hB,fun g hg=>by cases hg⟩

theorem cloneO_any (v:Value) (xs:List (Int × Int × Int)) (w:World) (hx:RecsAt w v xs) (hlen:xs.length≤1000000):Calls Try.prog 48 #[v] w (SX.Ret (fun v w'=>RecsAt w' v xs∧Fresh w.heap.size v) w):=by
 obtain ⟨A,cp,rfl,hs⟩:=hx.shape
 cases A with
 | none =>
  have h0:=hs.2.2 rfl
  have hn:xs.length=0:=by have:=hs.1.1; omega
  obtain rfl:=List.length_eq_zero_iff.1 hn
  subst h0
  exact cloneO_nil w hx
 | some a0=>exact cloneO_some a0 cp xs w hx hlen

set_option maxHeartbeats 400000 in
theorem cloneI_some (a0:Addr) (cp:Nat) (xs:List Int) (w:World) (hx0:IntsAt w (.slice (some a0) xs.length cp) xs) (hlen:xs.length≤1000000):Calls Try.prog 49 #[(.slice (some a0) xs.length cp)] w (SX.Ret (fun v w'=>IntsAt w' v xs∧Fresh w.heap.size v) w):=by
 have mix:=mixed
 have hB:Below w.heap.size w w:=Below.refl _ _
 have hM:SX.Cells w []:=SX.cells_nil
 refine SX.enter [(.slice (some a0) xs.length cp)] 8 Try.func49 rfl rfl (by kernel_rfl) ?_
 intro a hR
 refine wp_seq_k fun K1 hK1=>?_
 refine SX.region_q0 [.ld []] [0] [(.e 0 (.slice (some a0) xs.length cp))] hR hM mix (by kernel_rfl) (by kernel_rfl) (by kernel_rfl) (by kernel_rfl) ?_
 clear hR hM; intro a2 w3 hR hb4 hM
 replace hB:=hB.tr hb4
 refine hK1 _ _ ?_
 refine wp_seq_k fun K5 hK5=>?_
 refine wp_seq_k fun K6 hK6=>?_
 refine SX.region_q0 [.ld [],.ld []] [0,4] [(.e 0 (.slice (some a0) xs.length cp)),(.e 4 (.bool false))] hR hM mix (by kernel_rfl) (by kernel_rfl) (by kernel_rfl) (by kernel_rfl) ?_
 clear hR hM; intro a7 w8 hR hb9 hM
 replace hB:=hB.tr hb9
 refine hK6 _ _ ?_
 refine SX.cond_ false hR (by kernel_rfl) (fun h10=>nomatch h10) (fun h10=>?_)
 refine wp_skip ?_
 refine hK5 _ _ ?_
 refine wp_seq_k fun K11 hK11=>?_
 refine SX.region_l ?_
 obtain ⟨n15,hn15⟩:∃ n,w8.heap.size=n:=⟨_,rfl⟩
 have hzn15:w.heap.size≤n15:=by have:=hB.size; omega
 refine SX.list_box 0 n15 [] 3 ((.e 5 (.slice (some ⟨n15,0,none⟩) 0 0))::[(.e 0 (.slice (some a0) xs.length cp)),(.e 4 (.bool false))]) [] hR hM hn15 (by kernel_rfl) (by kernel_rfl) ?_
 clear hR hM; intro a12 w13 hR hb14 hM hkn15 hln15
 replace hB:=hB.tr hb14
 replace hR:SX.RSt 8 [] [(.e 0 (.slice (some a0) xs.length cp)),(.e 5 (.slice (some ⟨n15,0,none⟩) 0 0))] a12:=hR.keep (ts:=[0,5]) (by kernel_rfl)
 refine SX.list_q0 (κ:=[]) 1 1 [.ld []] [5,6] [(.e 5 (.slice (some ⟨n15,0,none⟩) 0 0)),(.e 6 (.slice (some a0) xs.length cp))] hR hM (by kernel_rfl) (by kernel_rfl) ?_
 clear hR hM; intro a16 w17 hR hb18 hM
 replace hB:=hB.tr hb18
 replace hkn15:=SX.blk_below hkn15 hb18
 have hrow:=Row.empty (e:=3) 1 hkn15
 obtain ⟨v19,w20,hrun,hrow2,hgr22⟩:=app_run 35 35 8 (.I 0) int_info Try.underlying35 rfl (by decide) hrow a0 xs.length cp (xs.map (Value.int .i64)) (hx0.below hB).cells.len ((hx0.below hB).cells.get a0 _ _ rfl) one_int (by omega) (by omega)
 simp only [Nat.zero_add,List.nil_append] at hrow2
 refine SX.list_run 2 (some 7) (appS 35 35 (.slice (some ⟨n15,0,none⟩) 0 0) (.slice (some a0) xs.length cp)) v19 hR (by kernel_rfl) (by kernel_rfl) hrun ?_
 clear hR hrun; intro a21 hR
 replace hB:=hB.grown hgr22 hB.size (fun g hg=>by have h1:=hrow.ge g hg; omega)
 replace hM:SX.Cells w20 []:=SX.cells_nil; clear hrow hkn15
 replace hR:SX.RSt 8 [] [(.e 7 v19)] a21:=hR.keep (ts:=[7]) (by kernel_rfl)
 refine SX.list_q0 (κ:=[]) 3 1 [.ld []] [2] [(.e 2 v19)] hR hM (by kernel_rfl) (by kernel_rfl) ?_
 clear hR hM; intro a23 w24 hR hb25 hM
 replace hB:=hB.tr hb25
 replace hrow2:=hrow2.below hb25
 refine SX.list_end 4 (by kernel_rfl) ?_
 refine hK11 _ _ ?_
 refine wp_ret ?_
 try simp only [Exit.then,Exit.inBlock,Nat.reduceEqDiff,↓reduceIte]
 refine SX.ret_ 2 v19 Try.results49 hR (by kernel_rfl) ?_
 clear hR hM mix hK1 hb4 hK5 hK6 hb9 hK11 hb14 hln15 hn15 hb18 hb25
 exact ⟨_,rfl,hB,IntsOwn.at_ ⟨hrow2,hx0.I,by omega⟩,fun g hg=>by have:=hrow2.ge g hg; omega⟩

set_option maxHeartbeats 400000 in
theorem cloneI_nil (w:World) (hx0:IntsAt w (.slice none 0 0) []):Calls Try.prog 49 #[(.slice none 0 0)] w (SX.Ret (fun v w'=>IntsAt w' v []∧Fresh w.heap.size v) w):=by
 have mix:=mixed
 have hB:Below w.heap.size w w:=Below.refl _ _
 have hM:SX.Cells w []:=SX.cells_nil
 refine SX.enter [(.slice none 0 0)] 8 Try.func49 rfl rfl (by kernel_rfl) ?_
 intro a hR
 refine wp_seq_k fun K1 hK1=>?_
 refine SX.region_q0 [.ld []] [0] [(.e 0 (.slice none 0 0))] hR hM mix (by kernel_rfl) (by kernel_rfl) (by kernel_rfl) (by kernel_rfl) ?_
 clear hR hM; intro a2 w3 hR hb4 hM
 replace hB:=hB.tr hb4
 refine hK1 _ _ ?_
 refine wp_seq_k fun K5 hK5=>?_
 refine wp_seq_k fun K6 hK6=>?_
 refine SX.region_q0 [.ld [],.ld []] [0,4] [(.e 0 (.slice none 0 0)),(.e 4 (.bool true))] hR hM mix (by kernel_rfl) (by kernel_rfl) (by kernel_rfl) (by kernel_rfl) ?_
 clear hR hM; intro a7 w8 hR hb9 hM
 replace hB:=hB.tr hb9
 refine hK6 _ _ ?_
 refine SX.cond_ true hR (by kernel_rfl) (fun h10=>?_) (fun h10=>nomatch h10)
 refine wp_seq_k fun K11 hK11=>?_
 refine SX.region_q0 [.ld []] [2] [(.e 2 (.slice none 0 0))] hR hM mix (by kernel_rfl) (by kernel_rfl) (by kernel_rfl) (by kernel_rfl) ?_
 clear hR hM; intro a12 w13 hR hb14 hM
 replace hB:=hB.tr hb14
 refine hK11 _ _ ?_
 refine wp_ret ?_
 try simp only [Exit.then,Exit.inBlock,Nat.reduceEqDiff,↓reduceIte]
 refine SX.ret_ 2 (.slice none 0 0) Try.results49 hR (by kernel_rfl) ?_
 clear hR hM mix hK1 hb4 hK5 hK6 hb9 hK11 hb14
 exact ⟨_,rfl,hB,hx0.below hB,fun g hg=>by cases hg⟩

theorem cloneI_any (v:Value) (xs:List Int) (w:World) (hx:IntsAt w v xs) (hlen:xs.length≤1000000):Calls Try.prog 49 #[v] w (SX.Ret (fun v w'=>IntsAt w' v xs∧Fresh w.heap.size v) w):=by
 obtain ⟨A,cp,rfl,hs⟩:=hx.shape
 cases A with
 | none =>
  have h0:=hs.2.2 rfl
  have hn:xs.length=0:=by have:=hs.1.1; omega
  obtain rfl:=List.length_eq_zero_iff.1 hn
  subst h0
  exact cloneI_nil w hx
 | some a0=>exact cloneI_some a0 cp xs w hx hlen

end Go.Proofs.Ytlkcidmmpeebeaa
