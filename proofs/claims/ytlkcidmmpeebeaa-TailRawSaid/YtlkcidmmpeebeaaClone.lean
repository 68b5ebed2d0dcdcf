/- Proved: slices.Clone,Small -/
import Derived.Test.YtlkcidmmpeebeaaBlk
import Derived.Test.YtlkcidmmpeebeaaRfCheck
set_option linter.unusedVariables false
set_option linter.unusedSimpArgs false
namespace Go.Proofs.Ytlkcidmmpeebeaa
open Go.RowKit
set_option maxRecDepth 100000
set_option maxHeartbeats 400000 in
theorem cloneC_some (a0:Addr) (cp:Nat) (xs:List (Int × Int × Int)) (w:World) (hx0:RecsAt w (.slice (some a0) xs.length cp) xs) (hlen:xs.length≤1000000):Calls Try.prog 47 #[(.slice (some a0) xs.length cp)] w (SX.Ret (fun v w'=>RecsAt w' v xs∧Fresh w.heap.size v) w):=by
 have mix:=mixed
 have hB:Below w.heap.size w w:=Below.refl _ _
 have hM:SX.Cells w []:=SX.cells_nil
 refine SX.enter [(.slice (some a0) xs.length cp)] 8 Try.func47 rfl rfl (by kernel_rfl) ?_
 intro a hR
 refine wp_seq_k fun K1 hK1=>?_
 refine SX.region_q0 [.ld []] [0,2] [(.e 0 (.slice (some a0) xs.length cp)),(.e 2 (.slice none 0 0))] hR hM mix (by kernel_rfl) (by kernel_rfl) (by kernel_rfl) (by kernel_rfl) ?_
 clear hR hM; intro a2 w3 hR hb4 hM
 replace hB:=hB.tr hb4
 refine hK1 _ _ ?_
 refine wp_seq_k fun K5 hK5=>?_
 refine wp_seq_k fun K6 hK6=>?_
 refine SX.region_q0 [.ld [],.ld []] [0,2,4] [(.e 0 (.slice (some a0) xs.length cp)),(.e 2 (.slice none 0 0)),(.e 4 (.bool false))] hR hM mix (by kernel_rfl) (by kernel_rfl) (by kernel_rfl) (by kernel_rfl) ?_
 clear hR hM; intro a7 w8 hR hb9 hM
 replace hB:=hB.tr hb9
 refine hK6 _ _ ?_
 refine SX.cond_ false hR (by kernel_rfl) (fun h10=>nomatch h10) (fun h10=>?_)
 refine wp_skip ?_
 refine hK5 _ _ ?_
 refine wp_seq_k fun K11 hK11=>?_
 refine SX.region_l ?_
 obtain ⟨n15,hn15⟩:∃ n,w8.heap.size=n:=⟨_,rfl⟩
 have hzn15:w.heap.size≤n15:=by have:=hB.size; omega
 refine SX.list_box 0 n15 [] 99 ((.e 5 (.slice (some ⟨n15,0,none⟩) 0 0))::[(.e 0 (.slice (some a0) xs.length cp)),(.e 2 (.slice none 0 0)),(.e 4 (.bool false))]) [] hR hM hn15 (by kernel_rfl) (by kernel_rfl) ?_
 clear hR hM; intro a12 w13 hR hb14 hM hkn15 hln15
 replace hB:=hB.tr hb14
 replace hR:SX.RSt 8 [] [(.e 0 (.slice (some a0) xs.length cp)),(.e 2 (.slice none 0 0)),(.e 4 (.bool false)),(.e 5 (.slice (some ⟨n15,0,none⟩) 0 0))] a12:=hR.keep (ts:=[0,2,4,5]) (by kernel_rfl)
 refine SX.list_q0 (κ:=[]) 1 1 [.ld []] [0,2,4,5,6] [(.e 0 (.slice (some a0) xs.length cp)),(.e 2 (.slice none 0 0)),(.e 4 (.bool false)),(.e 5 (.slice (some ⟨n15,0,none⟩) 0 0)),(.e 6 (.slice (some a0) xs.length cp))] hR hM (by kernel_rfl) (by kernel_rfl) ?_
 clear hR hM; intro a16 w17 hR hb18 hM
 replace hB:=hB.tr hb18
 replace hkn15:=SX.blk_below hkn15 hb18
 have hrow:=Row.empty (e:=99) 3 hkn15
 obtain ⟨v19,w20,hrun,hrow2,hgr22⟩:=app_run 23 23 24 (.agg #[.I 0,.I 0,.I 0]) ctx_info Try.underlying23 rfl (by decide) hrow a0 xs.length cp (xs.flatMap recC) (hx0.below hB).cells.len ((hx0.below hB).cells.get a0 _ _ rfl) one_rec (by omega) (by omega)
 simp only [Nat.zero_add,List.nil_append] at hrow2
 refine SX.list_run 2 (some 7) (appS 23 23 (.slice (some ⟨n15,0,none⟩) 0 0) (.slice (some a0) xs.length cp)) v19 hR (by kernel_rfl) (by kernel_rfl) hrun ?_
 clear hR hrun; intro a21 hR
 replace hB:=hB.grown hgr22 hB.size (fun g hg=>by have h1:=hrow.ge g hg; omega)
 replace hM:SX.Cells w20 []:=SX.cells_nil; clear hrow hkn15
 replace hR:SX.RSt 8 [] [(.e 0 (.slice (some a0) xs.length cp)),(.e 2 (.slice none 0 0)),(.e 4 (.bool false)),(.e 7 v19)] a21:=hR.keep (ts:=[0,2,4,7]) (by kernel_rfl)
 refine SX.list_q0 (κ:=[]) 3 1 [.ld []] [0,2,4] [(.e 0 (.slice (some a0) xs.length cp)),(.e 2 v19),(.e 4 (.bool false))] hR hM (by kernel_rfl) (by kernel_rfl) ?_
 clear hR hM; intro a23 w24 hR hb25 hM
 replace hB:=hB.tr hb25
 replace hrow2:=hrow2.below hb25
 refine SX.list_end 4 (by kernel_rfl) ?_
 refine hK11 _ _ ?_
 refine wp_ret ?_
 try simp only [Exit.then,Exit.inBlock,Nat.reduceEqDiff,↓reduceIte]
 refine SX.ret_ 2 v19 Try.results47 hR (by kernel_rfl) ?_
 clear hR hM mix hK1 hb4 hK5 hK6 hb9 hK11 hb14 hln15 hn15 hb18 hb25
 exact ⟨_,rfl,hB,hrow2.recs hx0.I (by omega),fun g hg=>by have:=hrow2.ge g hg; omega⟩

set_option maxHeartbeats 400000 in
theorem cloneC_nil (w:World) (hx0:RecsAt w (.slice none 0 0) []):Calls Try.prog 47 #[(.slice none 0 0)] w (SX.Ret (fun v w'=>RecsAt w' v []∧Fresh w.heap.size v) w):=by
 have mix:=mixed
 have hB:Below w.heap.size w w:=Below.refl _ _
 have hM:SX.Cells w []:=SX.cells_nil
 refine SX.enter [(.slice none 0 0)] 8 Try.func47 rfl rfl (by kernel_rfl) ?_
 intro a hR
 refine wp_seq_k fun K1 hK1=>?_
 refine SX.region_q0 [.ld []] [0,2] [(.e 0 (.slice none 0 0)),(.e 2 (.slice none 0 0))] hR hM mix (by kernel_rfl) (by kernel_rfl) (by kernel_rfl) (by kernel_rfl) ?_
 clear hR hM; intro a2 w3 hR hb4 hM
 replace hB:=hB.tr hb4
 refine hK1 _ _ ?_
 refine wp_seq_k fun K5 hK5=>?_
 refine wp_seq_k fun K6 hK6=>?_
 refine SX.region_q0 [.ld [],.ld []] [0,2,4] [(.e 0 (.slice none 0 0)),(.e 2 (.slice none 0 0)),(.e 4 (.bool true))] hR hM mix (by kernel_rfl) (by kernel_rfl) (by kernel_rfl) (by kernel_rfl) ?_
 clear hR hM; intro a7 w8 hR hb9 hM
 replace hB:=hB.tr hb9
 refine hK6 _ _ ?_
 refine SX.cond_ true hR (by kernel_rfl) (fun h10=>?_) (fun h10=>nomatch h10)
 refine wp_seq_k fun K11 hK11=>?_
 refine SX.region_q0 [.ld []] [0,2,4] [(.e 0 (.slice none 0 0)),(.e 2 (.slice none 0 0)),(.e 4 (.bool true))] hR hM mix (by kernel_rfl) (by kernel_rfl) (by kernel_rfl) (by kernel_rfl) ?_
 clear hR hM; intro a12 w13 hR hb14 hM
 replace hB:=hB.tr hb14
 refine hK11 _ _ ?_
 refine wp_ret ?_
 try simp only [Exit.then,Exit.inBlock,Nat.reduceEqDiff,↓reduceIte]
 refine SX.ret_ 2 (.slice none 0 0) Try.results47 hR (by kernel_rfl) ?_
 clear hR hM mix hK1 hb4 hK5 hK6 hb9 hK11 hb14
 exact ⟨_,rfl,hB,hx0.below hB,fun g hg=>by cases hg⟩

theorem cloneC_any (v:Value) (xs:List (Int × Int × Int)) (w:World) (hx:RecsAt w v xs) (hlen:xs.length≤1000000):Calls Try.prog 47 #[v] w (SX.Ret (fun v w'=>RecsAt w' v xs∧Fresh w.heap.size v) w):=by
 obtain ⟨A,cp,rfl,hs⟩:=hx.shape
 cases A with
 | none =>
  have h0:=hs.2.2 rfl
  have hn:xs.length=0:=by have:=hs.1.1; omega
  obtain rfl:=List.length_eq_zero_iff.1 hn
  subst h0
  exact cloneC_nil w hx
 | some a0=>exact cloneC_some a0 cp xs w hx hlen

set_option maxHeartbeats 400000 in
theorem cloneO_some (a0:Addr) (cp:Nat) (xs:List (Int × Int × Int)) (w:World) (hx0:RecsAt w (.slice (some a0) xs.length cp) xs) (hlen:xs.length≤1000000):Calls Try.prog 48 #[(.slice (some a0) xs.length cp)] w (SX.Ret (fun v w'=>RecsAt w' v xs∧Fresh w.heap.size v) w):=by
 have mix:=mixed
 have hB:Below w.heap.size w w:=Below.refl _ _
 have hM:SX.Cells w []:=SX.cells_nil
 refine SX.enter [(.slice (some a0) xs.length cp)] 8 Try.func48 rfl rfl (by kernel_rfl) ?_
 intro a hR
 refine wp_seq_k fun K1 hK1=>?_
 refine SX.region_q0 [.ld []] [0,2] [(.e 0 (.slice (some a0) xs.length cp)),(.e 2 (.slice none 0 0))] hR hM mix (by kernel_rfl) (by kernel_rfl) (by kernel_rfl) (by kernel_rfl) ?_
 clear hR hM; intro a2 w3 hR hb4 hM
 replace hB:=hB.tr hb4
 refine hK1 _ _ ?_
 refine wp_seq_k fun K5 hK5=>?_
 refine wp_seq_k fun K6 hK6=>?_
 refine SX.region_q0 [.ld [],.ld []] [0,2,4] [(.e 0 (.slice (some a0) xs.length cp)),(.e 2 (.slice none 0 0)),(.e 4 (.bool false))] hR hM mix (by kernel_rfl) (by kernel_rfl) (by kernel_rfl) (by kernel_rfl) ?_
 clear hR hM; intro a7 w8 hR hb9 hM
 replace hB:=hB.tr hb9
 refine hK6 _ _ ?_
 refine SX.cond_ false hR (by kernel_rfl) (fun h10=>nomatch h10) (fun h10=>?_)
 refine wp_skip ?_
 refine hK5 _ _ ?_
 refine wp_seq_k fun K11 hK11=>?_
 refine SX.region_l ?_
 obtain ⟨n15,hn15⟩:∃ n,w8.heap.size=n:=⟨_,rfl⟩
 have hzn15:w.heap.size≤n15:=by have:=hB.size; omega
 refine SX.list_box 0 n15 [] 102 ((.e 5 (.slice (some ⟨n15,0,none⟩) 0 0))::[(.e 0 (.slice (some a0) xs.length cp)),(.e 2 (.slice none 0 0)),(.e 4 (.bool false))]) [] hR hM hn15 (by kernel_rfl) (by kernel_rfl) ?_
 clear hR hM; intro a12 w13 hR hb14 hM hkn15 hln15
 replace hB:=hB.tr hb14
 replace hR:SX.RSt 8 [] [(.e 0 (.slice (some a0) xs.length cp)),(.e 2 (.slice none 0 0)),(.e 4 (.bool false)),(.e 5 (.slice (some ⟨n15,0,none⟩) 0 0))] a12:=hR.keep (ts:=[0,2,4,5]) (by kernel_rfl)
 refine SX.list_q0 (κ:=[]) 1 1 [.ld []] [0,2,4,5,6] [(.e 0 (.slice (some a0) xs.length cp)),(.e 2 (.slice none 0 0)),(.e 4 (.bool false)),(.e 5 (.slice (some ⟨n15,0,none⟩) 0 0)),(.e 6 (.slice (some a0) xs.length cp))] hR hM (by kernel_rfl) (by kernel_rfl) ?_
 clear hR hM; intro a16 w17 hR hb18 hM
 replace hB:=hB.tr hb18
 replace hkn15:=SX.blk_below hkn15 hb18
 have hrow:=Row.empty (e:=102) 3 hkn15
 obtain ⟨v19,w20,hrun,hrow2,hgr22⟩:=app_run 24 24 24 (.agg #[.I 0,.I 0,.I 0]) obj_info Try.underlying24 rfl (by decide) hrow a0 xs.length cp (xs.flatMap recC) (hx0.below hB).cells.len ((hx0.below hB).cells.get a0 _ _ rfl) one_rec (by omega) (by omega)
 simp only [Nat.zero_add,List.nil_append] at hrow2
 refine SX.list_run 2 (some 7) (appS 24 24 (.slice (some ⟨n15,0,none⟩) 0 0) (.slice (some a0) xs.length cp)) v19 hR (by kernel_rfl) (by kernel_rfl) hrun ?_
 clear hR hrun; intro a21 hR
 replace hB:=hB.grown hgr22 hB.size (fun g hg=>by have h1:=hrow.ge g hg; omega)
 replace hM:SX.Cells w20 []:=SX.cells_nil; clear hrow hkn15
 replace hR:SX.RSt 8 [] [(.e 0 (.slice (some a0) xs.length cp)),(.e 2 (.slice none 0 0)),(.e 4 (.bool false)),(.e 7 v19)] a21:=hR.keep (ts:=[0,2,4,7]) (by kernel_rfl)
 refine SX.list_q0 (κ:=[]) 3 1 [.ld []] [0,2,4] [(.e 0 (.slice (some a0) xs.length cp)),(.e 2 v19),(.e 4 (.bool false))] hR hM (by kernel_rfl) (by kernel_rfl) ?_
 clear hR hM; intro a23 w24 hR hb25 hM
 replace hB:=hB.tr hb25
 replace hrow2:=hrow2.below hb25
 refine SX.list_end 4 (by kernel_rfl) ?_
 refine hK11 _ _ ?_
 refine wp_ret ?_
 try simp only [Exit.then,Exit.inBlock,Nat.reduceEqDiff,↓reduceIte]
 refine SX.ret_ 2 v19 Try.results48 hR (by kernel_rfl) ?_
 clear hR hM mix hK1 hb4 hK5 hK6 hb9 hK11 hb14 hln15 hn15 hb18 hb25
 exact ⟨_,rfl,hB,hrow2.recs hx0.I (by omega),fun g hg=>by have:=hrow2.ge g hg; omega⟩

set_option maxHeartbeats 400000 in
theorem cloneO_nil (w:World) (hx0:RecsAt w (.slice none 0 0) []):Calls Try.prog 48 #[(.slice none 0 0)] w (SX.Ret (fun v w'=>RecsAt w' v []∧Fresh w.heap.size v) w):=by
 have mix:=mixed
 have hB:Below w.heap.size w w:=Below.refl _ _
 have hM:SX.Cells w []:=SX.cells_nil
 refine SX.enter [(.slice none 0 0)] 8 Try.func48 rfl rfl (by kernel_rfl) ?_
 intro a hR
 refine wp_seq_k fun K1 hK1=>?_
 refine SX.region_q0 [.ld []] [0,2] [(.e 0 (.slice none 0 0)),(.e 2 (.slice none 0 0))] hR hM mix (by kernel_rfl) (by kernel_rfl) (by kernel_rfl) (by kernel_rfl) ?_
 clear hR hM; intro a2 w3 hR hb4 hM
 replace hB:=hB.tr hb4
 refine hK1 _ _ ?_
 refine wp_seq_k fun K5 hK5=>?_
 refine wp_seq_k fun K6 hK6=>?_
 refine SX.region_q0 [.ld [],.ld []] [0,2,4] [(.e 0 (.slice none 0 0)),(.e 2 (.slice none 0 0)),(.e 4 (.bool true))] hR hM mix (by kernel_rfl) (by kernel_rfl) (by kernel_rfl) (by kernel_rfl) ?_
 clear hR hM; intro a7 w8 hR hb9 hM
 replace hB:=hB.tr hb9
 refine hK6 _ _ ?_
 refine SX.cond_ true hR (by kernel_rfl) (fun h10=>?_) (fun h10=>nomatch h10)
 refine wp_seq_k fun K11 hK11=>?_
 refine SX.region_q0 [.ld []] [0,2,4] [(.e 0 (.slice none 0 0)),(.e 2 (.slice none 0 0)),(.e 4 (.bool true))] hR hM mix (by kernel_rfl) (by kernel_rfl) (by kernel_rfl) (by kernel_rfl) ?_
 clear hR hM; intro a12 w13 hR hb14 hM
 replace hB:=hB.tr hb14
 refine hK11 _ _ ?_
 refine wp_ret ?_
 try simp only [Exit.then,Exit.inBlock,Nat.reduceEqDiff,↓reduceIte]
 refine SX.ret_ 2 (.slice none 0 0) Try.results48 hR (by kernel_rfl) ?_
 clear hR hM mix hK1 hb4 hK5 hK6 hb9 hK11 hb14
 exact ⟨_,rfl,hB,hx0.below hB,fun g hg=>by cases hg⟩

theorem cloneO_any (v:Value) (xs:List (Int × Int × Int)) (w:World) (hx:RecsAt w v xs) (hlen:xs.length≤1000000):Calls Try.prog 48 #[v] w (SX.Ret (fun v w'=>RecsAt w' v xs∧Fresh w.heap.size v) w):=by
 obtain ⟨A,cp,rfl,hs⟩:=hx.shape
 cases A with
 | none =>
  have h0:=hs.2.2 rfl
  have hn:xs.length=0:=by have:=hs.1.1; omega
  obtain rfl:=List.length_eq_zero_iff.1 hn
  subst h0
  exact cloneO_nil w hx
 | some a0=>exact cloneO_some a0 cp xs w hx hlen

set_option maxHeartbeats 400000 in
theorem cloneI_some (a0:Addr) (cp:Nat) (xs:List Int) (w:World) (hx0:IntsAt w (.slice (some a0) xs.length cp) xs) (hlen:xs.length≤1000000):Calls Try.prog 49 #[(.slice (some a0) xs.length cp)] w (SX.Ret (fun v w'=>IntsAt w' v xs∧Fresh w.heap.size v) w):=by
 have mix:=mixed
 have hB:Below w.heap.size w w:=Below.refl _ _
 have hM:SX.Cells w []:=SX.cells_nil
 refine SX.enter [(.slice (some a0) xs.length cp)] 8 Try.func49 rfl rfl (by kernel_rfl) ?_
 intro a hR
 refine wp_seq_k fun K1 hK1=>?_
 refine SX.region_q0 [.ld []] [0,2] [(.e 0 (.slice (some a0) xs.length cp)),(.e 2 (.slice none 0 0))] hR hM mix (by kernel_rfl) (by kernel_rfl) (by kernel_rfl) (by kernel_rfl) ?_
 clear hR hM; intro a2 w3 hR hb4 hM
 replace hB:=hB.tr hb4
 refine hK1 _ _ ?_
 refine wp_seq_k fun K5 hK5=>?_
 refine wp_seq_k fun K6 hK6=>?_
 refine SX.region_q0 [.ld [],.ld []] [0,2,4] [(.e 0 (.slice (some a0) xs.length cp)),(.e 2 (.slice none 0 0)),(.e 4 (.bool false))] hR hM mix (by kernel_rfl) (by kernel_rfl) (by kernel_rfl) (by kernel_rfl) ?_
 clear hR hM; intro a7 w8 hR hb9 hM
 replace hB:=hB.tr hb9
 refine hK6 _ _ ?_
 refine SX.cond_ false hR (by kernel_rfl) (fun h10=>nomatch h10) (fun h10=>?_)
 refine wp_skip ?_
 refine hK5 _ _ ?_
 refine wp_seq_k fun K11 hK11=>?_
 refine SX.region_l ?_
 obtain ⟨n15,hn15⟩:∃ n,w8.heap.size=n:=⟨_,rfl⟩
 have hzn15:w.heap.size≤n15:=by have:=hB.size; omega
 refine SX.list_box 0 n15 [] 3 ((.e 5 (.slice (some ⟨n15,0,none⟩) 0 0))::[(.e 0 (.slice (some a0) xs.length cp)),(.e 2 (.slice none 0 0)),(.e 4 (.bool false))]) [] hR hM hn15 (by kernel_rfl) (by kernel_rfl) ?_
 clear hR hM; intro a12 w13 hR hb14 hM hkn15 hln15
 replace hB:=hB.tr hb14
 replace hR:SX.RSt 8 [] [(.e 0 (.slice (some a0) xs.length cp)),(.e 2 (.slice none 0 0)),(.e 4 (.bool false)),(.e 5 (.slice (some ⟨n15,0,none⟩) 0 0))] a12:=hR.keep (ts:=[0,2,4,5]) (by kernel_rfl)
 refine SX.list_q0 (κ:=[]) 1 1 [.ld []] [0,2,4,5,6] [(.e 0 (.slice (some a0) xs.length cp)),(.e 2 (.slice none 0 0)),(.e 4 (.bool false)),(.e 5 (.slice (some ⟨n15,0,none⟩) 0 0)),(.e 6 (.slice (some a0) xs.length cp))] hR hM (by kernel_rfl) (by kernel_rfl) ?_
 clear hR hM; intro a16 w17 hR hb18 hM
 replace hB:=hB.tr hb18
 replace hkn15:=SX.blk_below hkn15 hb18
 have hrow:=Row.empty (e:=3) 1 hkn15
 obtain ⟨v19,w20,hrun,hrow2,hgr22⟩:=app_run 35 35 8 (.I 0) int_info Try.underlying35 rfl (by decide) hrow a0 xs.length cp (xs.map (Value.int .i64)) (hx0.below hB).cells.len ((hx0.below hB).cells.get a0 _ _ rfl) one_int (by omega) (by omega)
 simp only [Nat.zero_add,List.nil_append] at hrow2
 refine SX.list_run 2 (some 7) (appS 35 35 (.slice (some ⟨n15,0,none⟩) 0 0) (.slice (some a0) xs.length cp)) v19 hR (by kernel_rfl) (by kernel_rfl) hrun ?_
 clear hR hrun; intro a21 hR
 replace hB:=hB.grown hgr22 hB.size (fun g hg=>by have h1:=hrow.ge g hg; omega)
 replace hM:SX.Cells w20 []:=SX.cells_nil; clear hrow hkn15
 replace hR:SX.RSt 8 [] [(.e 0 (.slice (some a0) xs.length cp)),(.e 2 (.slice none 0 0)),(.e 4 (.bool false)),(.e 7 v19)] a21:=hR.keep (ts:=[0,2,4,7]) (by kernel_rfl)
 refine SX.list_q0 (κ:=[]) 3 1 [.ld []] [0,2,4] [(.e 0 (.slice (some a0) xs.length cp)),(.e 2 v19),(.e 4 (.bool false))] hR hM (by kernel_rfl) (by kernel_rfl) ?_
 clear hR hM; intro a23 w24 hR hb25 hM
 replace hB:=hB.tr hb25
 replace hrow2:=hrow2.below hb25
 refine SX.list_end 4 (by kernel_rfl) ?_
 refine hK11 _ _ ?_
 refine wp_ret ?_
 try simp only [Exit.then,Exit.inBlock,Nat.reduceEqDiff,↓reduceIte]
 refine SX.ret_ 2 v19 Try.results49 hR (by kernel_rfl) ?_
 clear hR hM mix hK1 hb4 hK5 hK6 hb9 hK11 hb14 hln15 hn15 hb18 hb25
 exact ⟨_,rfl,hB,IntsOwn.at_ ⟨hrow2,hx0.I,by omega⟩,fun g hg=>by have:=hrow2.ge g hg; omega⟩

set_option maxHeartbeats 400000 in
theorem cloneI_nil (w:World) (hx0:IntsAt w (.slice none 0 0) []):Calls Try.prog 49 #[(.slice none 0 0)] w (SX.Ret (fun v w'=>IntsAt w' v []∧Fresh w.heap.size v) w):=by
 have mix:=mixed
 have hB:Below w.heap.size w w:=Below.refl _ _
 have hM:SX.Cells w []:=SX.cells_nil
 refine SX.enter [(.slice none 0 0)] 8 Try.func49 rfl rfl (by kernel_rfl) ?_
 intro a hR
 refine wp_seq_k fun K1 hK1=>?_
 refine SX.region_q0 [.ld []] [0,2] [(.e 0 (.slice none 0 0)),(.e 2 (.slice none 0 0))] hR hM mix (by kernel_rfl) (by kernel_rfl) (by kernel_rfl) (by kernel_rfl) ?_
 clear hR hM; intro a2 w3 hR hb4 hM
 replace hB:=hB.tr hb4
 refine hK1 _ _ ?_
 refine wp_seq_k fun K5 hK5=>?_
 refine wp_seq_k fun K6 hK6=>?_
 refine SX.region_q0 [.ld [],.ld []] [0,2,4] [(.e 0 (.slice none 0 0)),(.e 2 (.slice none 0 0)),(.e 4 (.bool true))] hR hM mix (by kernel_rfl) (by kernel_rfl) (by kernel_rfl) (by kernel_rfl) ?_
 clear hR hM; intro a7 w8 hR hb9 hM
 replace hB:=hB.tr hb9
 refine hK6 _ _ ?_
 refine SX.cond_ true hR (by kernel_rfl) (fun h10=>?_) (fun h10=>nomatch h10)
 refine wp_seq_k fun K11 hK11=>?_
 refine SX.region_q0 [.ld []] [0,2,4] [(.e 0 (.slice none 0 0)),(.e 2 (.slice none 0 0)),(.e 4 (.bool true))] hR hM mix (by kernel_rfl) (by kernel_rfl) (by kernel_rfl) (by kernel_rfl) ?_
 clear hR hM; intro a12 w13 hR hb14 hM
 replace hB:=hB.tr hb14
 refine hK11 _ _ ?_
 refine wp_ret ?_
 try simp only [Exit.then,Exit.inBlock,Nat.reduceEqDiff,↓reduceIte]
 refine SX.ret_ 2 (.slice none 0 0) Try.results49 hR (by kernel_rfl) ?_
 clear hR hM mix hK1 hb4 hK5 hK6 hb9 hK11 hb14
 exact ⟨_,rfl,hB,hx0.below hB,fun g hg=>by cases hg⟩

theorem cloneI_any (v:Value) (xs:List Int) (w:World) (hx:IntsAt w v xs) (hlen:xs.length≤1000000):Calls Try.prog 49 #[v] w (SX.Ret (fun v w'=>IntsAt w' v xs∧Fresh w.heap.size v) w):=by
 obtain ⟨A,cp,rfl,hs⟩:=hx.shape
 cases A with
 | none =>
  have h0:=hs.2.2 rfl
  have hn:xs.length=0:=by have:=hs.1.1; omega
  obtain rfl:=List.length_eq_zero_iff.1 hn
  subst h0
  exact cloneI_nil w hx
 | some a0=>exact cloneI_some a0 cp xs w hx hlen

set_option maxHeartbeats 400000 in
theorem cloneP_some (a0:Addr) (cp:Nat) (xs:List OpD) (w:World) (hx0:OpsAt w (.slice (some a0) xs.length cp) xs) (hlen:xs.length≤1000000):Calls Try.prog 51 #[(.slice (some a0) xs.length cp)] w (SX.Ret (fun v w'=>OpsAt w' v xs∧Fresh w.heap.size v) w):=by
 have mix:=mixed
 have hB:Below w.heap.size w w:=Below.refl _ _
 have hM:SX.Cells w []:=SX.cells_nil
 refine SX.enter [(.slice (some a0) xs.length cp)] 8 Try.func51 rfl rfl (by kernel_rfl) ?_
 intro a hR
 refine wp_seq_k fun K1 hK1=>?_
 refine SX.region_q0 [.ld []] [0,2] [(.e 0 (.slice (some a0) xs.length cp)),(.e 2 (.slice none 0 0))] hR hM mix (by kernel_rfl) (by kernel_rfl) (by kernel_rfl) (by kernel_rfl) ?_
 clear hR hM; intro a2 w3 hR hb4 hM
 replace hB:=hB.tr hb4
 refine hK1 _ _ ?_
 refine wp_seq_k fun K5 hK5=>?_
 refine wp_seq_k fun K6 hK6=>?_
 refine SX.region_q0 [.ld [],.ld []] [0,2,4] [(.e 0 (.slice (some a0) xs.length cp)),(.e 2 (.slice none 0 0)),(.e 4 (.bool false))] hR hM mix (by kernel_rfl) (by kernel_rfl) (by kernel_rfl) (by kernel_rfl) ?_
 clear hR hM; intro a7 w8 hR hb9 hM
 replace hB:=hB.tr hb9
 refine hK6 _ _ ?_
 refine SX.cond_ false hR (by kernel_rfl) (fun h10=>nomatch h10) (fun h10=>?_)
 refine wp_skip ?_
 refine hK5 _ _ ?_
 refine wp_seq_k fun K11 hK11=>?_
 refine SX.region_l ?_
 obtain ⟨n15,hn15⟩:∃ n,w8.heap.size=n:=⟨_,rfl⟩
 have hzn15:w.heap.size≤n15:=by have:=hB.size; omega
 refine SX.list_box 0 n15 [] 74 ((.e 5 (.slice (some ⟨n15,0,none⟩) 0 0))::[(.e 0 (.slice (some a0) xs.length cp)),(.e 2 (.slice none 0 0)),(.e 4 (.bool false))]) [] hR hM hn15 (by kernel_rfl) (by kernel_rfl) ?_
 clear hR hM; intro a12 w13 hR hb14 hM hkn15 hln15
 replace hB:=hB.tr hb14
 replace hR:SX.RSt 8 [] [(.e 0 (.slice (some a0) xs.length cp)),(.e 2 (.slice none 0 0)),(.e 4 (.bool false)),(.e 5 (.slice (some ⟨n15,0,none⟩) 0 0))] a12:=hR.keep (ts:=[0,2,4,5]) (by kernel_rfl)
 refine SX.list_q0 (κ:=[]) 1 1 [.ld []] [0,2,4,5,6] [(.e 0 (.slice (some a0) xs.length cp)),(.e 2 (.slice none 0 0)),(.e 4 (.bool false)),(.e 5 (.slice (some ⟨n15,0,none⟩) 0 0)),(.e 6 (.slice (some a0) xs.length cp))] hR hM (by kernel_rfl) (by kernel_rfl) ?_
 clear hR hM; intro a16 w17 hR hb18 hM
 replace hB:=hB.tr hb18
 replace hkn15:=SX.blk_below hkn15 hb18
 have hrow:=Row.empty (e:=74) 11 hkn15
 obtain ⟨v19,w20,hrun,hrow2,hgr22⟩:=app_run 55 55 88 (.agg #[.I 0,.I 0,.I 0,.I 0,.I 0,.I 0,.I 0,.I 0,.I 0,.I 0,.I 0]) op_info Try.underlying55 rfl (by decide) hrow a0 xs.length cp (xs.flatMap opC) (hx0.below hB).cells.len ((hx0.below hB).cells.get a0 _ _ rfl) one_op (by omega) (by omega)
 simp only [Nat.zero_add,List.nil_append] at hrow2
 refine SX.list_run 2 (some 7) (appS 55 55 (.slice (some ⟨n15,0,none⟩) 0 0) (.slice (some a0) xs.length cp)) v19 hR (by kernel_rfl) (by kernel_rfl) hrun ?_
 clear hR hrun; intro a21 hR
 replace hB:=hB.grown hgr22 hB.size (fun g hg=>by have h1:=hrow.ge g hg; omega)
 replace hM:SX.Cells w20 []:=SX.cells_nil; clear hrow hkn15
 replace hR:SX.RSt 8 [] [(.e 0 (.slice (some a0) xs.length cp)),(.e 2 (.slice none 0 0)),(.e 4 (.bool false)),(.e 7 v19)] a21:=hR.keep (ts:=[0,2,4,7]) (by kernel_rfl)
 refine SX.list_q0 (κ:=[]) 3 1 [.ld []] [0,2,4] [(.e 0 (.slice (some a0) xs.length cp)),(.e 2 v19),(.e 4 (.bool false))] hR hM (by kernel_rfl) (by kernel_rfl) ?_
 clear hR hM; intro a23 w24 hR hb25 hM
 replace hB:=hB.tr hb25
 replace hrow2:=hrow2.below hb25
 refine SX.list_end 4 (by kernel_rfl) ?_
 refine hK11 _ _ ?_
 refine wp_ret ?_
 try simp only [Exit.then,Exit.inBlock,Nat.reduceEqDiff,↓reduceIte]
 refine SX.ret_ 2 v19 Try.results51 hR (by kernel_rfl) ?_
 clear hR hM mix hK1 hb4 hK5 hK6 hb9 hK11 hb14 hln15 hn15 hb18 hb25
 exact ⟨_,rfl,hB,hrow2.ops hx0.I (by omega),fun g hg=>by have:=hrow2.ge g hg; omega⟩

set_option maxHeartbeats 400000 in
theorem cloneP_nil (w:World) (hx0:OpsAt w (.slice none 0 0) []):Calls Try.prog 51 #[(.slice none 0 0)] w (SX.Ret (fun v w'=>OpsAt w' v []∧Fresh w.heap.size v) w):=by
 have mix:=mixed
 have hB:Below w.heap.size w w:=Below.refl _ _
 have hM:SX.Cells w []:=SX.cells_nil
 refine SX.enter [(.slice none 0 0)] 8 Try.func51 rfl rfl (by kernel_rfl) ?_
 intro a hR
 refine wp_seq_k fun K1 hK1=>?_
 refine SX.region_q0 [.ld []] [0,2] [(.e 0 (.slice none 0 0)),(.e 2 (.slice none 0 0))] hR hM mix (by kernel_rfl) (by kernel_rfl) (by kernel_rfl) (by kernel_rfl) ?_
 clear hR hM; intro a2 w3 hR hb4 hM
 replace hB:=hB.tr hb4
 refine hK1 _ _ ?_
 refine wp_seq_k fun K5 hK5=>?_
 refine wp_seq_k fun K6 hK6=>?_
 refine SX.region_q0 [.ld [],.ld []] [0,2,4] [(.e 0 (.slice none 0 0)),(.e 2 (.slice none 0 0)),(.e 4 (.bool true))] hR hM mix (by kernel_rfl) (by kernel_rfl) (by kernel_rfl) (by kernel_rfl) ?_
 clear hR hM; intro a7 w8 hR hb9 hM
 replace hB:=hB.tr hb9
 refine hK6 _ _ ?_
 refine SX.cond_ true hR (by kernel_rfl) (fun h10=>?_) (fun h10=>nomatch h10)
 refine wp_seq_k fun K11 hK11=>?_
 refine SX.region_q0 [.ld []] [0,2,4] [(.e 0 (.slice none 0 0)),(.e 2 (.slice none 0 0)),(.e 4 (.bool true))] hR hM mix (by kernel_rfl) (by kernel_rfl) (by kernel_rfl) (by kernel_rfl) ?_
 clear hR hM; intro a12 w13 hR hb14 hM
 replace hB:=hB.tr hb14
 refine hK11 _ _ ?_
 refine wp_ret ?_
 try simp only [Exit.then,Exit.inBlock,Nat.reduceEqDiff,↓reduceIte]
 refine SX.ret_ 2 (.slice none 0 0) Try.results51 hR (by kernel_rfl) ?_
 clear hR hM mix hK1 hb4 hK5 hK6 hb9 hK11 hb14
 exact ⟨_,rfl,hB,hx0.below hB,fun g hg=>by cases hg⟩

theorem cloneP_any (v:Value) (xs:List OpD) (w:World) (hx:OpsAt w v xs) (hlen:xs.length≤1000000):Calls Try.prog 51 #[v] w (SX.Ret (fun v w'=>OpsAt w' v xs∧Fresh w.heap.size v) w):=by
 obtain ⟨A,cp,rfl,hs⟩:=hx.shape
 cases A with
 | none =>
  have h0:=hs.2.2 rfl
  have hn:xs.length=0:=by have:=hs.1.1; omega
  obtain rfl:=List.length_eq_zero_iff.1 hn
  subst h0
  exact cloneP_nil w hx
 | some a0=>exact cloneP_some a0 cp xs w hx hlen

set_option maxHeartbeats 400000 in
theorem small_any (c:CodeD) (v1 v2 v3:Value) (w:World) (h:CodeAt w v1 v2 v3 c):Calls Try.prog 13 #[(.agg #[.I c.params,v1,v2,v3])] w (SX.Ret (fun v _=>∃ b,v=.bool b) w):=by
 have h0:=h
 obtain ⟨A1,k1,rfl,s1⟩:=h.2.1.shape
 obtain ⟨A2,k2,rfl,s2⟩:=h.2.2.1.shape
 obtain ⟨A3,k3,rfl,s3⟩:=h.2.2.2.shape
 unfold Shape at s1 s2 s3
 have mix:=mixed
 have hB:Below w.heap.size w w:=Below.refl _ _
 have hM:SX.Cells w []:=SX.cells_nil
 refine SX.enter [(.agg #[.I c.params,.slice A1 c.blocks.length k1,.slice A2 c.contexts.length k2,.slice A3 c.objects.length k3])] 50 Try.func13 rfl rfl (by kernel_rfl) ?_
 intro a hR
 refine wp_seq_k fun K1 hK1=>?_
 refine SX.region_l ?_
 obtain ⟨n5,hn5⟩:∃ n,w.heap.size=n:=⟨_,rfl⟩
 have hzn5:w.heap.size≤n5:=by have:=hB.size; omega
 refine SX.list_box 0 n5 [(.I c.params),(.slice A1 c.blocks.length k1),(.slice A2 c.contexts.length k2),(.slice A3 c.objects.length k3)] 26 ((.e 1 (.P n5))::[(.e 0 (.agg #[.I c.params,.slice A1 c.blocks.length k1,.slice A2 c.contexts.length k2,.slice A3 c.objects.length k3]))]) [(⟨n5,0,none⟩,(.I c.params)),(⟨n5,1,none⟩,(.slice A1 c.blocks.length k1)),(⟨n5,2,none⟩,(.slice A2 c.contexts.length k2)),(⟨n5,3,none⟩,(.slice A3 c.objects.length k3))] hR hM hn5 (by kernel_rfl) (by kernel_rfl) ?_
 clear hR hM; intro a2 w3 hR hb4 hM hkn5 hln5
 replace hB:=hB.tr hb4
 replace hR:SX.RSt 50 [] [(.e 1 (.P n5))] a2:=hR.keep (ts:=[1]) (by kernel_rfl)
 refine SX.list_q0 (κ:=[]) 1 1 [.ld []] [1,2] [(.e 1 (.P n5)),(.e 2 (.bool false))] hR hM (by kernel_rfl) (by kernel_rfl) ?_
 clear hR hM; intro a6 w7 hR hb8 hM
 replace hB:=hB.tr hb8
 replace hkn5:=SX.blk_below hkn5 hb8
 refine SX.list_end 2 (by kernel_rfl) ?_
 refine hK1 _ _ ?_
 refine wp_seq_k fun K9 hK9=>?_
 refine SX.region_q [] [.ld [],.ld [2],.ld [],.ld [],.ld [3],.ld [],.ld [],.ld [0,1,2,3],.cl (.I (totW c.blocks)),.ld [],.ld []] [1,2,3] [(.e 1 (.P n5)),(.e 2 (.bool false)),(.e 3 (.I (IntKind.i64.wrap ((IntKind.i64.wrap (((c.contexts.length:Nat):Int)+((c.objects.length:Nat):Int)))+(totW c.blocks)))))] [] [] [([],45,#[(.agg #[.I c.params,.slice A1 c.blocks.length k1,.slice A2 c.contexts.length k2,.slice A3 c.objects.length k3])],(.I (totW c.blocks)))] [] hR hM mix (by kernel_rfl) (by kernel_rfl) (by kernel_rfl) (by kernel_rfl) trivial trivial (fun w' hb' hM'=>trivial) (fun w' hb' hM'=>⟨fun hg=>ops_any c _ _ _ _ (h0.below (hB.tr hb')),trivial⟩) ?_
 clear hR hM; intro a10 w11 hR hb12 hM
 replace hB:=hB.tr hb12
 replace hkn5:=SX.blk_below hkn5 hb12
 refine hK9 _ _ ?_
 refine wp_seq_k fun K13 hK13=>?_
 refine wp_seq_k fun K14 hK14=>?_
 refine SX.region_q0 [.ld [],.ld [1],.ld [],.ld []] [1,2,3,17,18,19] [(.e 1 (.P n5)),(.e 2 (.bool false)),(.e 3 (.I (IntKind.i64.wrap ((IntKind.i64.wrap (((c.contexts.length:Nat):Int)+((c.objects.length:Nat):Int)))+(totW c.blocks))))),(.e 17 (.slice A1 c.blocks.length k1)),(.e 18 (.I ((c.blocks.length:Nat):Int))),(.e 19 (.I 0))] hR hM mix (by kernel_rfl) (by kernel_rfl) (by kernel_rfl) (by kernel_rfl) ?_
 clear hR hM; intro a15 w16 hR hb17 hM
 replace hB:=hB.tr hb17
 replace hkn5:=SX.blk_below hkn5 hb17
 refine hK14 _ _ ?_
 refine wp_block ?_
 refine wp_loop_ghost (fun m20 a' w'=>∃ k:Nat,∃ z:Int,m20=c.blocks.length-k∧k≤c.blocks.length∧SX.RSt 50 [] [(.e 1 (.P n5)),(.e 3 (.I z)),(.e 17 (.slice A1 c.blocks.length k1)),(.e 18 (.I ((c.blocks.length:Nat):Int))),(.e 19 (.I ((k:Nat):Int)))] a'∧Below w.heap.size w w'∧SX.Cells w' [(⟨n5,0,none⟩,(.I c.params)),(⟨n5,1,none⟩,(.slice A1 c.blocks.length k1)),(⟨n5,2,none⟩,(.slice A2 c.contexts.length k2)),(⟨n5,3,none⟩,(.slice A3 c.objects.length k3))]∧True) (c.blocks.length-0) ⟨0,(IntKind.i64.wrap ((IntKind.i64.wrap (((c.contexts.length:Nat):Int)+((c.objects.length:Nat):Int)))+(totW c.blocks))),rfl,Nat.zero_le _,hR.keep (ts:=[1,3,17,18,19]) (by kernel_rfl),hB,hM,trivial⟩ ?_
 clear hR hM hB
 rintro m20 a18 w19 ⟨k,z,hm20,hlek,hR,hB,hM,hIk⟩
 refine wp_seq_k fun K21 hK21=>?_
 refine SX.region_q0 [.ld []] [1,3,17,18,19,20] [(.e 1 (.P n5)),(.e 3 (.I z)),(.e 17 (.slice A1 c.blocks.length k1)),(.e 18 (.I ((c.blocks.length:Nat):Int))),(.e 19 (.I ((k:Nat):Int))),(.e 20 (.bool (decide (((k:Nat):Int)<((c.blocks.length:Nat):Int)))))] hR hM mix (by kernel_rfl) (by kernel_rfl) (by kernel_rfl) (by kernel_rfl) ?_
 clear hR hM; intro a22 w23 hR hb24 hM
 replace hB:=hB.tr hb24
 refine hK21 _ _ ?_
 refine wp_seq_k fun K25 hK25=>?_
 refine SX.cond_ (decide (((k:Nat):Int)<((c.blocks.length:Nat):Int))) hR (by kernel_rfl) (fun h26=>?_) (fun h26=>?_)
 ·skip
  refine wp_skip ?_
  refine hK25 _ _ ?_
  refine wp_seq_k fun K27 hK27=>?_
  refine wp_block ?_
  refine wp_seq_k fun K28 hK28=>?_
  have hlt:k<c.blocks.length:=lt_of_dec h26
  obtain ⟨y,hy⟩:=get_of_lt hlt
  obtain ⟨bby,boy,hAy,B1y,j1y,B2y,j2y,B3y,j3y,B4y,j4y,hsy,hbly,cb0y,cb1y,cb2y,cb3y,cb4y,cb5y,cb6y,cb7y,cb8y,cb9y⟩:=h0.2.1.elem hy
  subst hAy; unfold Shape at hsy
  have hoy:bby<w.heap.size:=World.block_lt_of_cell? w _ cb0y
  replace hM:=(SX.cells_add (cell_below hB cb0y) (SX.cells_add (cell_below hB cb1y) (SX.cells_add (cell_below hB cb2y) (SX.cells_add (cell_below hB cb3y) (SX.cells_add (cell_below hB cb4y) (SX.cells_add (cell_below hB cb5y) (SX.cells_add (cell_below hB cb6y) (SX.cells_add (cell_below hB cb7y) (SX.cells_add (cell_below hB cb8y) (SX.cells_add (cell_below hB cb9y) hM))))))))))
  refine SX.region_l ?_
  refine SX.list_q (κ:=[]) 0 2 [.ix ⟨bby,boy+k*10,none⟩,.ld [0,1,2,3,4,5,6,7,8,9]] [1,3,17,18,19,20,22] [(.e 1 (.P n5)),(.e 3 (.I z)),(.e 17 (.slice (some ⟨bby,boy,none⟩) c.blocks.length k1)),(.e 18 (.I ((c.blocks.length:Nat):Int))),(.e 19 (.I ((k:Nat):Int))),(.e 20 (.bool (decide (((k:Nat):Int)<((c.blocks.length:Nat):Int))))),(.e 22 (.agg #[.I y.params,.slice B1y y.ops.length j1y,.I y.term.kind,.I y.term.a,.I y.term.n,.slice B2y y.term.args.length j2y,.I y.term.b0,.slice B3y y.term.args0.length j3y,.I y.term.b1,.slice B4y y.term.args1.length j4y]))] [([],⟨bby,boy,none⟩,c.blocks.length,((k:Nat):Int),10,⟨bby,boy+k*10,none⟩)] [] [] [] hR hM (by kernel_rfl) (by kernel_rfl) ⟨fun hg=>SX.ix_ok (by omega),trivial⟩ trivial (fun w' hb' hM'=>trivial) (fun w' hb' hM'=>trivial) ?_
  clear hR hM; intro a29 w30 hR hb31 hM
  replace hB:=hB.tr hb31
  obtain ⟨n35,hn35⟩:∃ n,w30.heap.size=n:=⟨_,rfl⟩
  have hzn35:w.heap.size≤n35:=by have:=hB.size; omega
  refine SX.list_alloc 2 n35 [(.I 0),(.slice none 0 0),(.I 0),(.I 0),(.I 0),(.slice none 0 0),(.I 0),(.slice none 0 0),(.I 0),(.slice none 0 0)] 62 ((.e 5 (.P n35))::[(.e 1 (.P n5)),(.e 3 (.I z)),(.e 17 (.slice (some ⟨bby,boy,none⟩) c.blocks.length k1)),(.e 18 (.I ((c.blocks.length:Nat):Int))),(.e 19 (.I ((k:Nat):Int))),(.e 20 (.bool (decide (((k:Nat):Int)<((c.blocks.length:Nat):Int))))),(.e 22 (.agg #[.I y.params,.slice B1y y.ops.length j1y,.I y.term.kind,.I y.term.a,.I y.term.n,.slice B2y y.term.args.length j2y,.I y.term.b0,.slice B3y y.term.args0.length j3y,.I y.term.b1,.slice B4y y.term.args1.length j4y]))]) hR hM hn35 (by kernel_rfl) ?_
  clear hR hM; intro a32 w33 hR hb34 hM hkn35 hln35 hnen35
  replace hB:=hB.tr hb34
  replace hR:SX.RSt 50 [] [(.e 1 (.P n5)),(.e 3 (.I z)),(.e 5 (.P n35)),(.e 17 (.slice (some ⟨bby,boy,none⟩) c.blocks.length k1)),(.e 18 (.I ((c.blocks.length:Nat):Int))),(.e 19 (.I ((k:Nat):Int))),(.e 20 (.bool (decide (((k:Nat):Int)<((c.blocks.length:Nat):Int))))),(.e 22 (.agg #[.I y.params,.slice B1y y.ops.length j1y,.I y.term.kind,.I y.term.a,.I y.term.n,.slice B2y y.term.args.length j2y,.I y.term.b0,.slice B3y y.term.args0.length j3y,.I y.term.b1,.slice B4y y.term.args1.length j4y]))] a32:=hR.keep (ts:=[1,3,5,17,18,19,20,22]) (by kernel_rfl)
  refine SX.list_store 3 [(0,(.I y.params)),(1,(.slice B1y y.ops.length j1y)),(2,(.I y.term.kind)),(3,(.I y.term.a)),(4,(.I y.term.n)),(5,(.slice B2y y.term.args.length j2y)),(6,(.I y.term.b0)),(7,(.slice B3y y.term.args0.length j3y)),(8,(.I y.term.b1)),(9,(.slice B4y y.term.args1.length j4y))] [(.I y.params),(.slice B1y y.ops.length j1y),(.I y.term.kind),(.I y.term.a),(.I y.term.n),(.slice B2y y.term.args.length j2y),(.I y.term.b0),(.slice B3y y.term.args0.length j3y),(.I y.term.b1),(.slice B4y y.term.args1.length j4y)] [(⟨bby,boy+k*10,none⟩,(.I y.params)),(⟨bby,boy+k*10+1,none⟩,(.slice B1y y.ops.length j1y)),(⟨bby,boy+k*10+2,none⟩,(.I y.term.kind)),(⟨bby,boy+k*10+3,none⟩,(.I y.term.a)),(⟨bby,boy+k*10+4,none⟩,(.I y.term.n)),(⟨bby,boy+k*10+5,none⟩,(.slice B2y y.term.args.length j2y)),(⟨bby,boy+k*10+6,none⟩,(.I y.term.b0)),(⟨bby,boy+k*10+7,none⟩,(.slice B3y y.term.args0.length j3y)),(⟨bby,boy+k*10+8,none⟩,(.I y.term.b1)),(⟨bby,boy+k*10+9,none⟩,(.slice B4y y.term.args1.length j4y)),(⟨n5,0,none⟩,(.I c.params)),(⟨n5,1,none⟩,(.slice (some ⟨bby,boy,none⟩) c.blocks.length k1)),(⟨n5,2,none⟩,(.slice A2 c.contexts.length k2)),(⟨n5,3,none⟩,(.slice A3 c.objects.length k3))] [(⟨n35,0,none⟩,(.I y.params)),(⟨n35,1,none⟩,(.slice B1y y.ops.length j1y)),(⟨n35,2,none⟩,(.I y.term.kind)),(⟨n35,3,none⟩,(.I y.term.a)),(⟨n35,4,none⟩,(.I y.term.n)),(⟨n35,5,none⟩,(.slice B2y y.term.args.length j2y)),(⟨n35,6,none⟩,(.I y.term.b0)),(⟨n35,7,none⟩,(.slice B3y y.term.args0.length j3y)),(⟨n35,8,none⟩,(.I y.term.b1)),(⟨n35,9,none⟩,(.slice B4y y.term.args1.length j4y)),(⟨bby,boy+k*10,none⟩,(.I y.params)),(⟨bby,boy+k*10+1,none⟩,(.slice B1y y.ops.length j1y)),(⟨bby,boy+k*10+2,none⟩,(.I y.term.kind)),(⟨bby,boy+k*10+3,none⟩,(.I y.term.a)),(⟨bby,boy+k*10+4,none⟩,(.I y.term.n)),(⟨bby,boy+k*10+5,none⟩,(.slice B2y y.term.args.length j2y)),(⟨bby,boy+k*10+6,none⟩,(.I y.term.b0)),(⟨bby,boy+k*10+7,none⟩,(.slice B3y y.term.args0.length j3y)),(⟨bby,boy+k*10+8,none⟩,(.I y.term.b1)),(⟨bby,boy+k*10+9,none⟩,(.slice B4y y.term.args1.length j4y)),(⟨n5,0,none⟩,(.I c.params)),(⟨n5,1,none⟩,(.slice (some ⟨bby,boy,none⟩) c.blocks.length k1)),(⟨n5,2,none⟩,(.slice A2 c.contexts.length k2)),(⟨n5,3,none⟩,(.slice A3 c.objects.length k3))] hR (SX.cells_sub hM [0,1,2,3,4,5,6,7,8,9,10,11,12,13] (by kernel_rfl)) hnen35 hkn35 (by kernel_rfl) (by kernel_rfl) (by kernel_rfl) ?_
  clear hR hM hkn35; intro a36 w37 hR hb38 hM hkn35
  replace hB:=hB.trans (hb38.below (by omega))
  refine SX.list_end 4 (by kernel_rfl) ?_
  refine hK28 _ _ ?_
  refine wp_seq_k fun K39 hK39=>?_
  refine SX.region_q0 [.ld [],.ld [],.ld [],.ld [],.ld [5],.ld [],.ld [],.ld [],.ld [],.ld [],.ld [],.ld [7],.ld [],.ld [],.ld [],.ld [],.ld [],.ld [],.ld [9],.ld [],.ld [],.ld []] [1,3,5,17,18,19,20,22] [(.e 1 (.P n5)),(.e 3 (.I (IntKind.i64.wrap ((IntKind.i64.wrap ((IntKind.i64.wrap ((IntKind.i64.wrap (z+4))+((y.term.args.length:Nat):Int)))+((y.term.args0.length:Nat):Int)))+((y.term.args1.length:Nat):Int))))),(.e 5 (.P n35)),(.e 17 (.slice (some ⟨bby,boy,none⟩) c.blocks.length k1)),(.e 18 (.I ((c.blocks.length:Nat):Int))),(.e 19 (.I ((k:Nat):Int))),(.e 20 (.bool (decide (((k:Nat):Int)<((c.blocks.length:Nat):Int))))),(.e 22 (.agg #[.I y.params,.slice B1y y.ops.length j1y,.I y.term.kind,.I y.term.a,.I y.term.n,.slice B2y y.term.args.length j2y,.I y.term.b0,.slice B3y y.term.args0.length j3y,.I y.term.b1,.slice B4y y.term.args1.length j4y]))] hR hM mix (by kernel_rfl) (by kernel_rfl) (by kernel_rfl) (by kernel_rfl) ?_
  clear hR hM; intro a40 w41 hR hb42 hM
  replace hB:=hB.tr hb42
  replace hkn35:=SX.blk_below hkn35 hb42
  refine hK39 _ _ ?_
  refine wp_seq_k fun K43 hK43=>?_
  refine SX.region_q0 [.ld [],.ld [0],.ld []] [1,3,5,17,18,19,20,22,46] [(.e 1 (.P n5)),(.e 3 (.I (IntKind.i64.wrap ((IntKind.i64.wrap ((IntKind.i64.wrap ((IntKind.i64.wrap (z+4))+((y.term.args.length:Nat):Int)))+((y.term.args0.length:Nat):Int)))+((y.term.args1.length:Nat):Int))))),(.e 5 (.P n35)),(.e 17 (.slice (some ⟨bby,boy,none⟩) c.blocks.length k1)),(.e 18 (.I ((c.blocks.length:Nat):Int))),(.e 19 (.I ((k:Nat):Int))),(.e 20 (.bool (decide (((k:Nat):Int)<((c.blocks.length:Nat):Int))))),(.e 22 (.agg #[.I y.params,.slice B1y y.ops.length j1y,.I y.term.kind,.I y.term.a,.I y.term.n,.slice B2y y.term.args.length j2y,.I y.term.b0,.slice B3y y.term.args0.length j3y,.I y.term.b1,.slice B4y y.term.args1.length j4y])),(.e 46 (.bool (decide (100<y.params))))] hR hM mix (by kernel_rfl) (by kernel_rfl) (by kernel_rfl) (by kernel_rfl) ?_
  clear hR hM; intro a44 w45 hR hb46 hM
  replace hB:=hB.tr hb46
  replace hkn35:=SX.blk_below hkn35 hb46
  refine hK43 _ _ ?_
  refine SX.cond_ (decide (100<y.params)) hR (by kernel_rfl) (fun h47=>?_) (fun h47=>?_)
  ·skip
   refine wp_seq_k fun K48 hK48=>?_
   refine SX.region_q0 [.ld []] [1,2,3,5,17,18,19,20,22,46] [(.e 1 (.P n5)),(.e 2 (.bool false)),(.e 3 (.I (IntKind.i64.wrap ((IntKind.i64.wrap ((IntKind.i64.wrap ((IntKind.i64.wrap (z+4))+((y.term.args.length:Nat):Int)))+((y.term.args0.length:Nat):Int)))+((y.term.args1.length:Nat):Int))))),(.e 5 (.P n35)),(.e 17 (.slice (some ⟨bby,boy,none⟩) c.blocks.length k1)),(.e 18 (.I ((c.blocks.length:Nat):Int))),(.e 19 (.I ((k:Nat):Int))),(.e 20 (.bool (decide (((k:Nat):Int)<((c.blocks.length:Nat):Int))))),(.e 22 (.agg #[.I y.params,.slice B1y y.ops.length j1y,.I y.term.kind,.I y.term.a,.I y.term.n,.slice B2y y.term.args.length j2y,.I y.term.b0,.slice B3y y.term.args0.length j3y,.I y.term.b1,.slice B4y y.term.args1.length j4y])),(.e 46 (.bool (decide (100<y.params))))] hR hM mix (by kernel_rfl) (by kernel_rfl) (by kernel_rfl) (by kernel_rfl) ?_
   clear hR hM; intro a49 w50 hR hb51 hM
   replace hB:=hB.tr hb51
   replace hkn35:=SX.blk_below hkn35 hb51
   refine hK48 _ _ ?_
   refine wp_ret ?_
   try simp only [Exit.then,Exit.inBlock,Nat.reduceEqDiff,↓reduceIte]
   refine SX.ret_ 2 (.bool false) Try.results13 hR (by kernel_rfl) ?_
   clear hR hM mix hK1 hzn5 hb4 hkn5 hln5 hn5 hb8 hK9 hb12 hK13 hK14 hb17 hm20 hK21 hb24 hK25 hK27 hK28 hb31 hzn35 hb34 hkn35 hln35 hn35 hnen35 hb38 hK39 hb42 hK43 hb46 hK48 hb51
   exact ⟨_,rfl,hB,_,rfl⟩
  ·skip
   refine wp_skip ?_
   refine hK27 _ _ ?_
   refine SX.region_q [] [.nm (.I ((k+1:Nat):Int)),.ld []] [1,3,5,17,18,19,20,22,46] [(.e 1 (.P n5)),(.e 3 (.I (IntKind.i64.wrap ((IntKind.i64.wrap ((IntKind.i64.wrap ((IntKind.i64.wrap (z+4))+((y.term.args.length:Nat):Int)))+((y.term.args0.length:Nat):Int)))+((y.term.args1.length:Nat):Int))))),(.e 5 (.P n35)),(.e 17 (.slice (some ⟨bby,boy,none⟩) c.blocks.length k1)),(.e 18 (.I ((c.blocks.length:Nat):Int))),(.e 19 (.I ((k+1:Nat):Int))),(.e 20 (.bool (decide (((k:Nat):Int)<((c.blocks.length:Nat):Int))))),(.e 22 (.agg #[.I y.params,.slice B1y y.ops.length j1y,.I y.term.kind,.I y.term.a,.I y.term.n,.slice B2y y.term.args.length j2y,.I y.term.b0,.slice B3y y.term.args0.length j3y,.I y.term.b1,.slice B4y y.term.args1.length j4y])),(.e 46 (.bool (decide (100<y.params))))] [] [] [] [([],(.I (IntKind.i64.wrap (((k:Nat):Int)+1))),(.I ((k+1:Nat):Int)))] hR hM mix (by kernel_rfl) (by kernel_rfl) (by kernel_rfl) (by kernel_rfl) trivial ⟨fun hg=>SX.wrap_ok (by omega),trivial⟩ (fun w' hb' hM'=>trivial) (fun w' hb' hM'=>trivial) ?_
   clear hR hM; intro a52 w53 hR hb54 hM
   replace hB:=hB.tr hb54
   replace hkn35:=SX.blk_below hkn35 hb54
   exact ⟨c.blocks.length-(k+1),by omega,k+1,(IntKind.i64.wrap ((IntKind.i64.wrap ((IntKind.i64.wrap ((IntKind.i64.wrap (z+4))+((y.term.args.length:Nat):Int)))+((y.term.args0.length:Nat):Int)))+((y.term.args1.length:Nat):Int))),rfl,by omega,hR.keep (ts:=[1,3,17,18,19]) (by kernel_rfl),hB,SX.cells_sub hM [20,21,22,23] (by kernel_rfl),trivial⟩
 ·skip
  refine wp_exit ?_
  refine hK13 _ _ ?_
  refine wp_seq_k fun K55 hK55=>?_
  refine SX.region_q0 [.ld [],.ld [],.ld []] [1,2,3,17,18,19,20] [(.e 1 (.P n5)),(.e 2 (.bool (decide (z≤600)))),(.e 3 (.I z)),(.e 17 (.slice A1 c.blocks.length k1)),(.e 18 (.I ((c.blocks.length:Nat):Int))),(.e 19 (.I ((k:Nat):Int))),(.e 20 (.bool (decide (((k:Nat):Int)<((c.blocks.length:Nat):Int)))))] hR hM mix (by kernel_rfl) (by kernel_rfl) (by kernel_rfl) (by kernel_rfl) ?_
  clear hR hM; intro a56 w57 hR hb58 hM
  replace hB:=hB.tr hb58
  refine hK55 _ _ ?_
  refine wp_ret ?_
  try simp only [Exit.then,Exit.inBlock,Nat.reduceEqDiff,↓reduceIte]
  refine SX.ret_ 2 (.bool (decide (z≤600))) Try.results13 hR (by kernel_rfl) ?_
  clear hR hM mix hK1 hzn5 hb4 hkn5 hln5 hn5 hb8 hK9 hb12 hK13 hK14 hb17 hm20 hK21 hb24 hK25 hK55 hb58
  exact ⟨_,rfl,hB,_,rfl⟩
end Go.Proofs.Ytlkcidmmpeebeaa
