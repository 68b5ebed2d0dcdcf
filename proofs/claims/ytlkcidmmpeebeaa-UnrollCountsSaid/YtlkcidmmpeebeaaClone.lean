/- Proved: slices.Clone,Small -/
import Derived.Test.YtlkcidmmpeebeaaBlk
import Derived.Test.YtlkcidmmpeebeaaRfCheck
set_option linter.unusedVariables false
set_option linter.unusedSimpArgs false
namespace Go.Proofs.Ytlkcidmmpeebeaa
open Go.RowKit
set_option maxRecDepth 100000
set_option maxHeartbeats 400000 in
theorem cloneC_some (a0:Addr) (cp:Nat) (xs:List (Int × Int × Int)) (w:World) (hx0:RecsAt w (.slice (some a0) xs.length cp) xs) (hlen:xs.length≤1000000):Calls Try.prog 47 #[(.slice (some a0) xs.length cp)] w (SX.Ret (fun v w'=>RecsAt w' v xs∧Fresh w.heap.size v) w):=by
 have mix:=mixed
 have hB:Below w.heap.size w w:=Below.refl _ _
 have hM:SX.Cells w []:=SX.cells_nil
 refine SX.enter [(.slice (some a0) xs.length cp)] 8 Try.func47 rfl rfl (by kernel_rfl) ?_
 intro a hR
 refine SX.qs [.ld []] [0] [] hR hM hB mix fun a1 w2 hR hb3 hB hM=>?_
 refine wp_seq_k fun K4 hK4=>?_
 refine SX.qs [.ld [],.ld []] [0,4] [(.e 4 (.bool false))] hR hM hB mix fun a5 w6 hR hb7 hB hM=>?_
 refine SX.cond_ false hR (by kernel_rfl) (fun h8=>nomatch h8) (fun h8=>?_)
 refine wp_skip ?_
 refine hK4 _ _ ?_
 refine wp_seq_k fun K9 hK9=>?_
 refine SX.region_l ?_
 obtain ⟨n13,hn13⟩:∃ n,w6.heap.size=n:=⟨_,rfl⟩
 have hzn13:w.heap.size≤n13:=by have:=hB.size; omega
 refine SX.list_box 0 n13 [] 99 ((.e 5 (.slice (some ⟨n13,0,none⟩) 0 0))::[(.e 0 (.slice (some a0) xs.length cp)),(.e 4 (.bool false))]) [] hR hM hn13 (by kernel_rfl) (by kernel_rfl) ?_
 clear hR hM; intro a10 w11 hR hb12 hM hkn13 hln13
 replace hB:=hB.tr hb12
 replace hR:SX.RSt 8 [] [(.e 0 (.slice (some a0) xs.length cp)),(.e 5 (.slice (some ⟨n13,0,none⟩) 0 0))] a10:=hR.keep (ts:=[0,5]) (by kernel_rfl)
 refine SX.list_q0 (κ:=[]) 1 1 [.ld []] [5,6] [(.e 5 (.slice (some ⟨n13,0,none⟩) 0 0)),(.e 6 (.slice (some a0) xs.length cp))] hR hM (by kernel_rfl) (by kernel_rfl) ?_
 clear hR hM; intro a14 w15 hR hb16 hM
 replace hB:=hB.tr hb16
 replace hkn13:=SX.blk_below hkn13 hb16
 have hrow:=Row.empty (e:=99) 3 hkn13
 obtain ⟨v17,w18,hrun,hrow2,hgr20⟩:=app_run 23 23 24 (.agg #[.I 0,.I 0,.I 0]) ctx_info Try.underlying23 rfl (by decide) hrow a0 xs.length cp (xs.flatMap recC) (hx0.below hB).cells.len ((hx0.below hB).cells.get a0 _ _ rfl) one_rec (by omega) (by omega)
 simp only [Nat.zero_add,List.nil_append] at hrow2
 refine SX.list_run 2 (some 7) (appS 23 23 (.slice (some ⟨n13,0,none⟩) 0 0) (.slice (some a0) xs.length cp)) v17 hR (by kernel_rfl) (by kernel_rfl) hrun ?_
 clear hR hrun; intro a19 hR
 replace hB:=hB.grown hgr20 hB.size (fun g hg=>by have h1:=hrow.ge g hg; omega)
 replace hM:SX.Cells w18 []:=SX.cells_nil; clear hrow hkn13
 replace hR:SX.RSt 8 [] [(.e 7 v17)] a19:=hR.keep (ts:=[7]) (by kernel_rfl)
 refine SX.list_q0 (κ:=[]) 3 1 [.ld []] [2] [(.e 2 v17)] hR hM (by kernel_rfl) (by kernel_rfl) ?_
 clear hR hM; intro a21 w22 hR hb23 hM
 replace hB:=hB.tr hb23
 replace hrow2:=hrow2.below hb23
 refine SX.list_end 4 (by kernel_rfl) ?_
 refine hK9 _ _ ?_
 refine wp_ret ?_
 try simp only [Exit.then,Exit.inBlock,Nat.reduceEqDiff,↓reduceIte]
 refine SX.ret_ 2 v17 Try.results47 hR (by kernel_rfl) ?_
 clear hR hM mix hb3 hK4 hb7 hK9 hb12 hln13 hn13 hb16 hb23
 exact ⟨_,rfl,hB,hrow2.recs hx0.I (by omega),(fun g hg=>by have:=hrow2.ge g hg; omega)⟩

set_option maxHeartbeats 400000 in
theorem cloneC_nil (w:World) (hx0:RecsAt w (.slice none 0 0) []):Calls Try.prog 47 #[(.slice none 0 0)] w (SX.Ret (fun v w'=>RecsAt w' v []∧Fresh w.heap.size v) w):=by
 have mix:=mixed
 have hB:Below w.heap.size w w:=Below.refl _ _
 have hM:SX.Cells w []:=SX.cells_nil
 refine SX.enter [(.slice none 0 0)] 8 Try.func47 rfl rfl (by kernel_rfl) ?_
 intro a hR
 refine SX.qs [.ld []] [0] [] hR hM hB mix fun a1 w2 hR hb3 hB hM=>?_
 refine wp_seq_k fun K4 hK4=>?_
 refine SX.qs [.ld [],.ld []] [0,4] [(.e 4 (.bool true))] hR hM hB mix fun a5 w6 hR hb7 hB hM=>?_
 refine SX.cond_ true hR (by kernel_rfl) (fun h8=>?_) (fun h8=>nomatch h8)
 refine SX.qs [.ld []] [2] [(.e 2 (.slice none 0 0))] hR hM hB mix fun a9 w10 hR hb11 hB hM=>?_
 refine wp_ret ?_
 try simp only [Exit.then,Exit.inBlock,Nat.reduceEqDiff,↓reduceIte]
 refine SX.ret_ 2 (.slice none 0 0) Try.results47 hR (by kernel_rfl) ?_
 clear hR hM mix hb3 hK4 hb7 hb11
 exact ⟨_,rfl,hB,hx0.below hB,(fun g hg=>by cases hg)⟩

theorem cloneC_any (v:Value) (xs:List (Int × Int × Int)) (w:World) (hx:RecsAt w v xs) (hlen:xs.length≤1000000):Calls Try.prog 47 #[v] w (SX.Ret (fun v w'=>RecsAt w' v xs∧Fresh w.heap.size v) w):=by
 obtain ⟨A,cp,rfl,hs⟩:=hx.shape
 cases A with
 | none =>
  have h0:=hs.2.2 rfl
  have hn:xs.length=0:=by have:=hs.1.1; omega
  obtain rfl:=List.length_eq_zero_iff.1 hn
  subst h0
  exact cloneC_nil w hx
 | some a0=>exact cloneC_some a0 cp xs w hx hlen

set_option maxHeartbeats 400000 in
theorem cloneO_some (a0:Addr) (cp:Nat) (xs:List (Int × Int × Int)) (w:World) (hx0:RecsAt w (.slice (some a0) xs.length cp) xs) (hlen:xs.length≤1000000):Calls Try.prog 48 #[(.slice (some a0) xs.length cp)] w (SX.Ret (fun v w'=>RecsAt w' v xs∧Fresh w.heap.size v) w):=by
 have mix:=mixed
 have hB:Below w.heap.size w w:=Below.refl _ _
 have hM:SX.Cells w []:=SX.cells_nil
 refine SX.enter [(.slice (some a0) xs.length cp)] 8 Try.func48 rfl rfl (by kernel_rfl) ?_
 intro a hR
 refine SX.qs [.ld []] [0] [] hR hM hB mix fun a1 w2 hR hb3 hB hM=>?_
 refine wp_seq_k fun K4 hK4=>?_
 refine SX.qs [.ld [],.ld []] [0,4] [(.e 4 (.bool false))] hR hM hB mix fun a5 w6 hR hb7 hB hM=>?_
 refine SX.cond_ false hR (by kernel_rfl) (fun h8=>nomatch h8) (fun h8=>?_)
 refine wp_skip ?_
 refine hK4 _ _ ?_
 refine wp_seq_k fun K9 hK9=>?_
 refine SX.region_l ?_
 obtain ⟨n13,hn13⟩:∃ n,w6.heap.size=n:=⟨_,rfl⟩
 have hzn13:w.heap.size≤n13:=by have:=hB.size; omega
 refine SX.list_box 0 n13 [] 102 ((.e 5 (.slice (some ⟨n13,0,none⟩) 0 0))::[(.e 0 (.slice (some a0) xs.length cp)),(.e 4 (.bool false))]) [] hR hM hn13 (by kernel_rfl) (by kernel_rfl) ?_
 clear hR hM; intro a10 w11 hR hb12 hM hkn13 hln13
 replace hB:=hB.tr hb12
 replace hR:SX.RSt 8 [] [(.e 0 (.slice (some a0) xs.length cp)),(.e 5 (.slice (some ⟨n13,0,none⟩) 0 0))] a10:=hR.keep (ts:=[0,5]) (by kernel_rfl)
 refine SX.list_q0 (κ:=[]) 1 1 [.ld []] [5,6] [(.e 5 (.slice (some ⟨n13,0,none⟩) 0 0)),(.e 6 (.slice (some a0) xs.length cp))] hR hM (by kernel_rfl) (by kernel_rfl) ?_
 clear hR hM; intro a14 w15 hR hb16 hM
 replace hB:=hB.tr hb16
 replace hkn13:=SX.blk_below hkn13 hb16
 have hrow:=Row.empty (e:=102) 3 hkn13
 obtain ⟨v17,w18,hrun,hrow2,hgr20⟩:=app_run 24 24 24 (.agg #[.I 0,.I 0,.I 0]) obj_info Try.underlying24 rfl (by decide) hrow a0 xs.length cp (xs.flatMap recC) (hx0.below hB).cells.len ((hx0.below hB).cells.get a0 _ _ rfl) one_rec (by omega) (by omega)
 simp only [Nat.zero_add,List.nil_append] at hrow2
 refine SX.list_run 2 (some 7) (appS 24 24 (.slice (some ⟨n13,0,none⟩) 0 0) (.slice (some a0) xs.length cp)) v17 hR (by kernel_rfl) (by kernel_rfl) hrun ?_
 clear hR hrun; intro a19 hR
 replace hB:=hB.grown hgr20 hB.size (fun g hg=>by have h1:=hrow.ge g hg; omega)
 replace hM:SX.Cells w18 []:=SX.cells_nil; clear hrow hkn13
 replace hR:SX.RSt 8 [] [(.e 7 v17)] a19:=hR.keep (ts:=[7]) (by kernel_rfl)
 refine SX.list_q0 (κ:=[]) 3 1 [.ld []] [2] [(.e 2 v17)] hR hM (by kernel_rfl) (by kernel_rfl) ?_
 clear hR hM; intro a21 w22 hR hb23 hM
 replace hB:=hB.tr hb23
 replace hrow2:=hrow2.below hb23
 refine SX.list_end 4 (by kernel_rfl) ?_
 refine hK9 _ _ ?_
 refine wp_ret ?_
 try simp only [Exit.then,Exit.inBlock,Nat.reduceEqDiff,↓reduceIte]
 refine SX.ret_ 2 v17 Try.results48 hR (by kernel_rfl) ?_
 clear hR hM mix hb3 hK4 hb7 hK9 hb12 hln13 hn13 hb16 hb23
 exact ⟨_,rfl,hB,hrow2.recs hx0.I (by omega),(fun g hg=>by have:=hrow2.ge g hg; omega)⟩

set_option maxHeartbeats 400000 in
theorem cloneO_nil (w:World) (hx0:RecsAt w (.slice none 0 0) []):Calls Try.prog 48 #[(.slice none 0 0)] w (SX.Ret (fun v w'=>RecsAt w' v []∧Fresh w.heap.size v) w):=by
 have mix:=mixed
 have hB:Below w.heap.size w w:=Below.refl _ _
 have hM:SX.Cells w []:=SX.cells_nil
 refine SX.enter [(.slice none 0 0)] 8 Try.func48 rfl rfl (by kernel_rfl) ?_
 intro a hR
 refine SX.qs [.ld []] [0] [] hR hM hB mix fun a1 w2 hR hb3 hB hM=>?_
 refine wp_seq_k fun K4 hK4=>?_
 refine SX.qs [.ld [],.ld []] [0,4] [(.e 4 (.bool true))] hR hM hB mix fun a5 w6 hR hb7 hB hM=>?_
 refine SX.cond_ true hR (by kernel_rfl) (fun h8=>?_) (fun h8=>nomatch h8)
 refine SX.qs [.ld []] [2] [(.e 2 (.slice none 0 0))] hR hM hB mix fun a9 w10 hR hb11 hB hM=>?_
 refine wp_ret ?_
 try simp only [Exit.then,Exit.inBlock,Nat.reduceEqDiff,↓reduceIte]
 refine SX.ret_ 2 (.slice none 0 0) Try.results48 hR (by kernel_rfl) ?_
 clear hR hM mix hb3 hK4 hb7 hb11
 exact ⟨_,rfl,hB,hx0.below hB,(fun g hg=>by cases hg)⟩

theorem cloneO_any (v:Value) (xs:List (Int × Int × Int)) (w:World) (hx:RecsAt w v xs) (hlen:xs.length≤1000000):Calls Try.prog 48 #[v] w (SX.Ret (fun v w'=>RecsAt w' v xs∧Fresh w.heap.size v) w):=by
 obtain ⟨A,cp,rfl,hs⟩:=hx.shape
 cases A with
 | none =>
  have h0:=hs.2.2 rfl
  have hn:xs.length=0:=by have:=hs.1.1; omega
  obtain rfl:=List.length_eq_zero_iff.1 hn
  subst h0
  exact cloneO_nil w hx
 | some a0=>exact cloneO_some a0 cp xs w hx hlen

set_option maxHeartbeats 400000 in
theorem cloneI_some (a0:Addr) (cp:Nat) (xs:List Int) (w:World) (hx0:IntsAt w (.slice (some a0) xs.length cp) xs) (hlen:xs.length≤1000000):Calls Try.prog 49 #[(.slice (some a0) xs.length cp)] w (SX.Ret (fun v w'=>IntsAt w' v xs∧Fresh w.heap.size v∧∃ B,Row w' B 3 1 v xs.length (xs.map (Value.int .i64))) w):=by
 have mix:=mixed
 have hB:Below w.heap.size w w:=Below.refl _ _
 have hM:SX.Cells w []:=SX.cells_nil
 refine SX.enter [(.slice (some a0) xs.length cp)] 8 Try.func49 rfl rfl (by kernel_rfl) ?_
 intro a hR
 refine SX.qs [.ld []] [0] [] hR hM hB mix fun a1 w2 hR hb3 hB hM=>?_
 refine wp_seq_k fun K4 hK4=>?_
 refine SX.qs [.ld [],.ld []] [0,4] [(.e 4 (.bool false))] hR hM hB mix fun a5 w6 hR hb7 hB hM=>?_
 refine SX.cond_ false hR (by kernel_rfl) (fun h8=>nomatch h8) (fun h8=>?_)
 refine wp_skip ?_
 refine hK4 _ _ ?_
 refine wp_seq_k fun K9 hK9=>?_
 refine SX.region_l ?_
 obtain ⟨n13,hn13⟩:∃ n,w6.heap.size=n:=⟨_,rfl⟩
 have hzn13:w.heap.size≤n13:=by have:=hB.size; omega
 refine SX.list_box 0 n13 [] 3 ((.e 5 (.slice (some ⟨n13,0,none⟩) 0 0))::[(.e 0 (.slice (some a0) xs.length cp)),(.e 4 (.bool false))]) [] hR hM hn13 (by kernel_rfl) (by kernel_rfl) ?_
 clear hR hM; intro a10 w11 hR hb12 hM hkn13 hln13
 replace hB:=hB.tr hb12
 replace hR:SX.RSt 8 [] [(.e 0 (.slice (some a0) xs.length cp)),(.e 5 (.slice (some ⟨n13,0,none⟩) 0 0))] a10:=hR.keep (ts:=[0,5]) (by kernel_rfl)
 refine SX.list_q0 (κ:=[]) 1 1 [.ld []] [5,6] [(.e 5 (.slice (some ⟨n13,0,none⟩) 0 0)),(.e 6 (.slice (some a0) xs.length cp))] hR hM (by kernel_rfl) (by kernel_rfl) ?_
 clear hR hM; intro a14 w15 hR hb16 hM
 replace hB:=hB.tr hb16
 replace hkn13:=SX.blk_below hkn13 hb16
 have hrow:=Row.empty (e:=3) 1 hkn13
 obtain ⟨v17,w18,hrun,hrow2,hgr20⟩:=app_run 35 35 8 (.I 0) int_info Try.underlying35 rfl (by decide) hrow a0 xs.length cp (xs.map (Value.int .i64)) (hx0.below hB).cells.len ((hx0.below hB).cells.get a0 _ _ rfl) one_int (by omega) (by omega)
 simp only [Nat.zero_add,List.nil_append] at hrow2
 refine SX.list_run 2 (some 7) (appS 35 35 (.slice (some ⟨n13,0,none⟩) 0 0) (.slice (some a0) xs.length cp)) v17 hR (by kernel_rfl) (by kernel_rfl) hrun ?_
 clear hR hrun; intro a19 hR
 replace hB:=hB.grown hgr20 hB.size (fun g hg=>by have h1:=hrow.ge g hg; omega)
 replace hM:SX.Cells w18 []:=SX.cells_nil; clear hrow hkn13
 replace hR:SX.RSt 8 [] [(.e 7 v17)] a19:=hR.keep (ts:=[7]) (by kernel_rfl)
 refine SX.list_q0 (κ:=[]) 3 1 [.ld []] [2] [(.e 2 v17)] hR hM (by kernel_rfl) (by kernel_rfl) ?_
 clear hR hM; intro a21 w22 hR hb23 hM
 replace hB:=hB.tr hb23
 replace hrow2:=hrow2.below hb23
 refine SX.list_end 4 (by kernel_rfl) ?_
 refine hK9 _ _ ?_
 refine wp_ret ?_
 try simp only [Exit.then,Exit.inBlock,Nat.reduceEqDiff,↓reduceIte]
 refine SX.ret_ 2 v17 Try.results49 hR (by kernel_rfl) ?_
 clear hR hM mix hb3 hK4 hb7 hK9 hb12 hln13 hn13 hb16 hb23
 exact ⟨_,rfl,hB,IntsOwn.at_ ⟨hrow2,hx0.I,by omega⟩,(fun g hg=>by have:=hrow2.ge g hg; omega),_,hrow2⟩

set_option maxHeartbeats 400000 in
theorem cloneI_nil (w:World) (hx0:IntsAt w (.slice none 0 0) []):Calls Try.prog 49 #[(.slice none 0 0)] w (SX.Ret (fun v w'=>IntsAt w' v []∧Fresh w.heap.size v∧∃ B,Row w' B 3 1 v ([]:List Int).length ([])) w):=by
 have mix:=mixed
 have hB:Below w.heap.size w w:=Below.refl _ _
 have hM:SX.Cells w []:=SX.cells_nil
 refine SX.enter [(.slice none 0 0)] 8 Try.func49 rfl rfl (by kernel_rfl) ?_
 intro a hR
 refine SX.qs [.ld []] [0] [] hR hM hB mix fun a1 w2 hR hb3 hB hM=>?_
 refine wp_seq_k fun K4 hK4=>?_
 refine SX.qs [.ld [],.ld []] [0,4] [(.e 4 (.bool true))] hR hM hB mix fun a5 w6 hR hb7 hB hM=>?_
 refine SX.cond_ true hR (by kernel_rfl) (fun h8=>?_) (fun h8=>nomatch h8)
 refine SX.qs [.ld []] [2] [(.e 2 (.slice none 0 0))] hR hM hB mix fun a9 w10 hR hb11 hB hM=>?_
 refine wp_ret ?_
 try simp only [Exit.then,Exit.inBlock,Nat.reduceEqDiff,↓reduceIte]
 refine SX.ret_ 2 (.slice none 0 0) Try.results49 hR (by kernel_rfl) ?_
 clear hR hM mix hb3 hK4 hb7 hb11
 exact ⟨_,rfl,hB,hx0.below hB,(fun g hg=>by cases hg),w.heap.size,Row.nil 3 1 hB.size⟩

theorem cloneI_own (v:Value) (xs:List Int) (w:World) (hx:IntsAt w v xs) (hlen:xs.length≤1000000):Calls Try.prog 49 #[v] w (SX.Ret (fun v w'=>IntsAt w' v xs∧Fresh w.heap.size v∧∃ B,Row w' B 3 1 v xs.length (xs.map (Value.int .i64))) w):=by
 obtain ⟨A,cp,rfl,hs⟩:=hx.shape
 cases A with
 | none =>
  have h0:=hs.2.2 rfl
  have hn:xs.length=0:=by have:=hs.1.1; omega
  obtain rfl:=List.length_eq_zero_iff.1 hn
  subst h0
  exact cloneI_nil w hx
 | some a0=>exact cloneI_some a0 cp xs w hx hlen

theorem cloneI_any (v:Value) (xs:List Int) (w:World) (hx:IntsAt w v xs) (hlen:xs.length≤1000000):Calls Try.prog 49 #[v] w (SX.Ret (fun v w'=>IntsAt w' v xs∧Fresh w.heap.size v) w) :=
 (cloneI_own v xs w hx hlen).mono fun _ _ ⟨v,he,hb,h3,h4,_⟩=>⟨v,he,hb,h3,h4⟩

set_option maxHeartbeats 400000 in
theorem cloneP_some (a0:Addr) (cp:Nat) (xs:List OpD) (w:World) (hx0:OpsAt w (.slice (some a0) xs.length cp) xs) (hlen:xs.length≤1000000):Calls Try.prog 51 #[(.slice (some a0) xs.length cp)] w (SX.Ret (fun v w'=>OpsAt w' v xs∧Fresh w.heap.size v∧∃ B,Row w' B 74 11 v xs.length (xs.flatMap opC)) w):=by
 have mix:=mixed
 have hB:Below w.heap.size w w:=Below.refl _ _
 have hM:SX.Cells w []:=SX.cells_nil
 refine SX.enter [(.slice (some a0) xs.length cp)] 8 Try.func51 rfl rfl (by kernel_rfl) ?_
 intro a hR
 refine SX.qs [.ld []] [0] [] hR hM hB mix fun a1 w2 hR hb3 hB hM=>?_
 refine wp_seq_k fun K4 hK4=>?_
 refine SX.qs [.ld [],.ld []] [0,4] [(.e 4 (.bool false))] hR hM hB mix fun a5 w6 hR hb7 hB hM=>?_
 refine SX.cond_ false hR (by kernel_rfl) (fun h8=>nomatch h8) (fun h8=>?_)
 refine wp_skip ?_
 refine hK4 _ _ ?_
 refine wp_seq_k fun K9 hK9=>?_
 refine SX.region_l ?_
 obtain ⟨n13,hn13⟩:∃ n,w6.heap.size=n:=⟨_,rfl⟩
 have hzn13:w.heap.size≤n13:=by have:=hB.size; omega
 refine SX.list_box 0 n13 [] 74 ((.e 5 (.slice (some ⟨n13,0,none⟩) 0 0))::[(.e 0 (.slice (some a0) xs.length cp)),(.e 4 (.bool false))]) [] hR hM hn13 (by kernel_rfl) (by kernel_rfl) ?_
 clear hR hM; intro a10 w11 hR hb12 hM hkn13 hln13
 replace hB:=hB.tr hb12
 replace hR:SX.RSt 8 [] [(.e 0 (.slice (some a0) xs.length cp)),(.e 5 (.slice (some ⟨n13,0,none⟩) 0 0))] a10:=hR.keep (ts:=[0,5]) (by kernel_rfl)
 refine SX.list_q0 (κ:=[]) 1 1 [.ld []] [5,6] [(.e 5 (.slice (some ⟨n13,0,none⟩) 0 0)),(.e 6 (.slice (some a0) xs.length cp))] hR hM (by kernel_rfl) (by kernel_rfl) ?_
 clear hR hM; intro a14 w15 hR hb16 hM
 replace hB:=hB.tr hb16
 replace hkn13:=SX.blk_below hkn13 hb16
 have hrow:=Row.empty (e:=74) 11 hkn13
 obtain ⟨v17,w18,hrun,hrow2,hgr20⟩:=app_run 55 55 88 (.agg #[.I 0,.I 0,.I 0,.I 0,.I 0,.I 0,.I 0,.I 0,.I 0,.I 0,.I 0]) op_info Try.underlying55 rfl (by decide) hrow a0 xs.length cp (xs.flatMap opC) (hx0.below hB).cells.len ((hx0.below hB).cells.get a0 _ _ rfl) one_op (by omega) (by omega)
 simp only [Nat.zero_add,List.nil_append] at hrow2
 refine SX.list_run 2 (some 7) (appS 55 55 (.slice (some ⟨n13,0,none⟩) 0 0) (.slice (some a0) xs.length cp)) v17 hR (by kernel_rfl) (by kernel_rfl) hrun ?_
 clear hR hrun; intro a19 hR
 replace hB:=hB.grown hgr20 hB.size (fun g hg=>by have h1:=hrow.ge g hg; omega)
 replace hM:SX.Cells w18 []:=SX.cells_nil; clear hrow hkn13
 replace hR:SX.RSt 8 [] [(.e 7 v17)] a19:=hR.keep (ts:=[7]) (by kernel_rfl)
 refine SX.list_q0 (κ:=[]) 3 1 [.ld []] [2] [(.e 2 v17)] hR hM (by kernel_rfl) (by kernel_rfl) ?_
 clear hR hM; intro a21 w22 hR hb23 hM
 replace hB:=hB.tr hb23
 replace hrow2:=hrow2.below hb23
 refine SX.list_end 4 (by kernel_rfl) ?_
 refine hK9 _ _ ?_
 refine wp_ret ?_
 try simp only [Exit.then,Exit.inBlock,Nat.reduceEqDiff,↓reduceIte]
 refine SX.ret_ 2 v17 Try.results51 hR (by kernel_rfl) ?_
 clear hR hM mix hb3 hK4 hb7 hK9 hb12 hln13 hn13 hb16 hb23
 exact ⟨_,rfl,hB,hrow2.ops hx0.I (by omega),(fun g hg=>by have:=hrow2.ge g hg; omega),_,hrow2⟩

set_option maxHeartbeats 400000 in
theorem cloneP_nil (w:World) (hx0:OpsAt w (.slice none 0 0) []):Calls Try.prog 51 #[(.slice none 0 0)] w (SX.Ret (fun v w'=>OpsAt w' v []∧Fresh w.heap.size v∧∃ B,Row w' B 74 11 v ([]:List OpD).length ([])) w):=by
 have mix:=mixed
 have hB:Below w.heap.size w w:=Below.refl _ _
 have hM:SX.Cells w []:=SX.cells_nil
 refine SX.enter [(.slice none 0 0)] 8 Try.func51 rfl rfl (by kernel_rfl) ?_
 intro a hR
 refine SX.qs [.ld []] [0] [] hR hM hB mix fun a1 w2 hR hb3 hB hM=>?_
 refine wp_seq_k fun K4 hK4=>?_
 refine SX.qs [.ld [],.ld []] [0,4] [(.e 4 (.bool true))] hR hM hB mix fun a5 w6 hR hb7 hB hM=>?_
 refine SX.cond_ true hR (by kernel_rfl) (fun h8=>?_) (fun h8=>nomatch h8)
 refine SX.qs [.ld []] [2] [(.e 2 (.slice none 0 0))] hR hM hB mix fun a9 w10 hR hb11 hB hM=>?_
 refine wp_ret ?_
 try simp only [Exit.then,Exit.inBlock,Nat.reduceEqDiff,↓reduceIte]
 refine SX.ret_ 2 (.slice none 0 0) Try.results51 hR (by kernel_rfl) ?_
 clear hR hM mix hb3 hK4 hb7 hb11
 exact ⟨_,rfl,hB,hx0.below hB,(fun g hg=>by cases hg),w.heap.size,Row.nil 74 11 hB.size⟩

theorem cloneP_own (v:Value) (xs:List OpD) (w:World) (hx:OpsAt w v xs) (hlen:xs.length≤1000000):Calls Try.prog 51 #[v] w (SX.Ret (fun v w'=>OpsAt w' v xs∧Fresh w.heap.size v∧∃ B,Row w' B 74 11 v xs.length (xs.flatMap opC)) w):=by
 obtain ⟨A,cp,rfl,hs⟩:=hx.shape
 cases A with
 | none =>
  have h0:=hs.2.2 rfl
  have hn:xs.length=0:=by have:=hs.1.1; omega
  obtain rfl:=List.length_eq_zero_iff.1 hn
  subst h0
  exact cloneP_nil w hx
 | some a0=>exact cloneP_some a0 cp xs w hx hlen

end Go.Proofs.Ytlkcidmmpeebeaa
