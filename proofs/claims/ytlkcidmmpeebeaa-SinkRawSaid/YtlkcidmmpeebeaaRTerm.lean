/- Proved: rightTerm -/
import Derived.Test.YtlkcidmmpeebeaaObj
set_option linter.unusedVariables false
set_option linter.unusedSimpArgs false
namespace Go.Proofs.Ytlkcidmmpeebeaa
open Go.RowKit
set_option maxRecDepth 100000
def rightTermH (c:CodeD) (H:Int→Bool) (t:TermD):Bool :=
 if !t.args.all H||!t.args0.all H||!t.args1.all H then false else
 match P.edges t with
 | none=>false
 | some e =>
  if (if t.kind==2||t.kind==4||t.kind==5 then !H t.a else t.a != 0) then false else
  if (if t.kind==3||t.kind==6 then !P.within t.n 7||decide (4<t.args.length) else t.n != 0||t.args.length != 0) then false else
  !((decide (0<e)&&!P.rightEdge c t.b0 t.args0 t.kind)||(decide (e≤0)&&!P.absent t.b0 t.args0))&&!((decide (1<e)&&!P.rightEdge c t.b1 t.args1 t.kind)||(decide (e≤1)&&!P.absent t.b1 t.args1))
theorem lt4 (n:Nat):decide ((4:Int)<(n:Int))=decide (4<n):=by rw [Bool.eq_iff_iff]; simp; omega
theorem lt0m (m:Nat):decide ((0:Int)<(m:Int))=decide (0<m):=by rw [Bool.eq_iff_iff]; simp
theorem le0m (m:Nat):decide ((m:Int)≤0)=decide (m≤0):=by rw [Bool.eq_iff_iff]; simp only [decide_eq_true_eq]; omega
theorem lt1m (m:Nat):decide ((1:Int)<(m:Int))=decide (1<m):=by rw [Bool.eq_iff_iff]; simp only [decide_eq_true_eq]; omega
theorem le1m (m:Nat):decide ((m:Int)≤1)=decide (m≤1):=by rw [Bool.eq_iff_iff]; simp only [decide_eq_true_eq]; omega
theorem ne0 (n:Nat):((n:Int) != 0)=(n != 0):=by rw [Bool.eq_iff_iff]; simp

set_option maxHeartbeats 4000000 in
theorem rightTerm_any (c:CodeD) (v1 v2 v3:Value) (w:World) (h:CodeAt w v1 v2 v3 c) (t:TermD) (u2 u3 u4:Value) (h2:IntsAt w u2 t.args) (h3:IntsAt w u3 t.args0) (h4:IntsAt w u4 t.args1) (n:Int) (ps:Int) (mb:Nat) (D:List (Int × Int)) (hp:0≤ps∧ps≤999) (hD:MapI w mb D):Calls Try.prog 130 #[(.agg #[.I c.params,v1,v2,v3]),(.agg #[.I ps,.map (some mb)]),.agg #[.I t.kind,.I t.a,.I t.n,u2,.I t.b0,u3,.I t.b1,u4],.I n] w fun e w'=>e=.returned (.bool (rightTermH c (fun x=>hasD ps D x n) t))∧Below w.heap.size w w':=by
 have h0:=h
 obtain ⟨A1,k1,rfl,s1⟩:=h.2.1.shape
 obtain ⟨A2,k2,rfl,s2⟩:=h.2.2.1.shape
 obtain ⟨A3,k3,rfl,s3⟩:=h.2.2.2.shape
 unfold Shape at s1 s2 s3
 obtain ⟨C2,l2,rfl,q2⟩:=h2.shape
 obtain ⟨C3,l3,rfl,q3⟩:=h3.shape
 obtain ⟨C4,l4,rfl,q4⟩:=h4.shape
 clear q2 q3 q4 s1 s2 s3
 have mix:=mixed
 have hB:Below w.heap.size w w:=Below.refl _ _
 have hM:SX.Cells w []:=SX.cells_nil
 refine SX.enter [(.agg #[.I c.params,.slice A1 c.blocks.length k1,.slice A2 c.contexts.length k2,.slice A3 c.objects.length k3]),(.agg #[.I ps,.map (some mb)]),(.agg #[.I t.kind,.I t.a,.I t.n,.slice C2 t.args.length l2,.I t.b0,.slice C3 t.args0.length l3,.I t.b1,.slice C4 t.args1.length l4]),(.I n)] 134 Try.func130 rfl rfl (by kernel_rfl) ?_
 intro a hR
 refine wp_seq_k fun K1 hK1=>?_
 refine SX.region_l ?_
 obtain ⟨n5,hn5⟩:∃ n,w.heap.size=n:=⟨_,rfl⟩
 have hzn5:w.heap.size≤n5:=by have:=hB.size; omega
 refine SX.list_box 0 n5 [(.I c.params),(.slice A1 c.blocks.length k1),(.slice A2 c.contexts.length k2),(.slice A3 c.objects.length k3)] 26 ((.e 4 (.P n5))::[(.e 0 (.agg #[.I c.params,.slice A1 c.blocks.length k1,.slice A2 c.contexts.length k2,.slice A3 c.objects.length k3])),(.e 1 (.agg #[.I ps,.map (some mb)])),(.e 2 (.agg #[.I t.kind,.I t.a,.I t.n,.slice C2 t.args.length l2,.I t.b0,.slice C3 t.args0.length l3,.I t.b1,.slice C4 t.args1.length l4])),(.e 3 (.I n))]) [(⟨n5,0,none⟩,(.I c.params)),(⟨n5,1,none⟩,(.slice A1 c.blocks.length k1)),(⟨n5,2,none⟩,(.slice A2 c.contexts.length k2)),(⟨n5,3,none⟩,(.slice A3 c.objects.length k3))] hR hM hn5 (by kernel_rfl) (by kernel_rfl) ?_
 clear hR hM; intro a2 w3 hR hb4 hM hkn5 hln5
 replace hB:=hB.tr hb4
 replace hR:SX.RSt 134 [] [(.e 1 (.agg #[.I ps,.map (some mb)])),(.e 2 (.agg #[.I t.kind,.I t.a,.I t.n,.slice C2 t.args.length l2,.I t.b0,.slice C3 t.args0.length l3,.I t.b1,.slice C4 t.args1.length l4])),(.e 3 (.I n)),(.e 4 (.P n5))] a2:=hR.keep (ts:=[1,2,3,4]) (by kernel_rfl)
 obtain ⟨n9,hn9⟩:∃ n,w3.heap.size=n:=⟨_,rfl⟩
 have hzn9:w.heap.size≤n9:=by have:=hB.size; omega
 have qn5n9:n5<n9:=by have:=(Array.getElem?_eq_some_iff.1 hkn5).1; omega
 refine SX.list_box 1 n9 [(.I ps),(.map (some mb))] 183 ((.e 5 (.P n9))::[(.e 1 (.agg #[.I ps,.map (some mb)])),(.e 2 (.agg #[.I t.kind,.I t.a,.I t.n,.slice C2 t.args.length l2,.I t.b0,.slice C3 t.args0.length l3,.I t.b1,.slice C4 t.args1.length l4])),(.e 3 (.I n)),(.e 4 (.P n5))]) [(⟨n9,0,none⟩,(.I ps)),(⟨n9,1,none⟩,(.map (some mb))),(⟨n5,0,none⟩,(.I c.params)),(⟨n5,1,none⟩,(.slice A1 c.blocks.length k1)),(⟨n5,2,none⟩,(.slice A2 c.contexts.length k2)),(⟨n5,3,none⟩,(.slice A3 c.objects.length k3))] hR hM hn9 (by kernel_rfl) (by kernel_rfl) ?_
 clear hR hM; intro a6 w7 hR hb8 hM hkn9 hln9
 replace hB:=hB.tr hb8
 replace hkn5:=SX.blk_below hkn5 hb8
 replace hR:SX.RSt 134 [] [(.e 2 (.agg #[.I t.kind,.I t.a,.I t.n,.slice C2 t.args.length l2,.I t.b0,.slice C3 t.args0.length l3,.I t.b1,.slice C4 t.args1.length l4])),(.e 3 (.I n)),(.e 4 (.P n5)),(.e 5 (.P n9))] a6:=hR.keep (ts:=[2,3,4,5]) (by kernel_rfl)
 obtain ⟨n13,hn13⟩:∃ n,w7.heap.size=n:=⟨_,rfl⟩
 have hzn13:w.heap.size≤n13:=by have:=hB.size; omega
 have qn5n13:n5<n13:=by have:=(Array.getElem?_eq_some_iff.1 hkn5).1; omega
 have qn9n13:n9<n13:=by have:=(Array.getElem?_eq_some_iff.1 hkn9).1; omega
 refine SX.list_box 2 n13 [(.I t.kind),(.I t.a),(.I t.n),(.slice C2 t.args.length l2),(.I t.b0),(.slice C3 t.args0.length l3),(.I t.b1),(.slice C4 t.args1.length l4)] 60 ((.e 6 (.P n13))::[(.e 2 (.agg #[.I t.kind,.I t.a,.I t.n,.slice C2 t.args.length l2,.I t.b0,.slice C3 t.args0.length l3,.I t.b1,.slice C4 t.args1.length l4])),(.e 3 (.I n)),(.e 4 (.P n5)),(.e 5 (.P n9))]) [(⟨n13,0,none⟩,(.I t.kind)),(⟨n13,1,none⟩,(.I t.a)),(⟨n13,2,none⟩,(.I t.n)),(⟨n13,3,none⟩,(.slice C2 t.args.length l2)),(⟨n13,4,none⟩,(.I t.b0)),(⟨n13,5,none⟩,(.slice C3 t.args0.length l3)),(⟨n13,6,none⟩,(.I t.b1)),(⟨n13,7,none⟩,(.slice C4 t.args1.length l4)),(⟨n9,0,none⟩,(.I ps)),(⟨n9,1,none⟩,(.map (some mb))),(⟨n5,0,none⟩,(.I c.params)),(⟨n5,1,none⟩,(.slice A1 c.blocks.length k1)),(⟨n5,2,none⟩,(.slice A2 c.contexts.length k2)),(⟨n5,3,none⟩,(.slice A3 c.objects.length k3))] hR hM hn13 (by kernel_rfl) (by kernel_rfl) ?_
 clear hR hM; intro a10 w11 hR hb12 hM hkn13 hln13
 replace hB:=hB.tr hb12
 replace hkn5:=SX.blk_below hkn5 hb12
 replace hkn9:=SX.blk_below hkn9 hb12
 replace hR:SX.RSt 134 [] [(.e 3 (.I n)),(.e 4 (.P n5)),(.e 5 (.P n9)),(.e 6 (.P n13))] a10:=hR.keep (ts:=[3,4,5,6]) (by kernel_rfl)
 refine SX.list_q0 (κ:=[]) 3 1 [.ld []] [3,4,5,6] [(.e 3 (.I n)),(.e 4 (.P n5)),(.e 5 (.P n9)),(.e 6 (.P n13))] hR hM (by kernel_rfl) (by kernel_rfl) ?_
 clear hR hM; intro a14 w15 hR hb16 hM
 replace hB:=hB.tr hb16
 replace hkn5:=SX.blk_below hkn5 hb16
 replace hkn9:=SX.blk_below hkn9 hb16
 replace hkn13:=SX.blk_below hkn13 hb16
 refine SX.list_end 4 (by kernel_rfl) ?_
 refine hK1 _ _ ?_
 refine wp_seq_k fun K17 hK17=>?_
 refine wp_seq_k fun K18 hK18=>?_
 refine SX.region_q [(6,(!(t.args.all (fun x=>hasD ps D x n)))),(16,((!(t.args.all (fun x=>hasD ps D x n)))||(!(t.args0.all (fun x=>hasD ps D x n)))))] [.ld [8,9],.ld [],.ld [],.ld [3],.cl (.bool (t.args.all (fun x=>hasD ps D x n))),.ld [],.ld [],.ld [8,9],.ld [],.ld [],.ld [],.ld [],.ld [5],.cl (.bool (t.args0.all (fun x=>hasD ps D x n))),.ld [],.pk,.ld [],.ld [8,9],.ld [],.ld [],.ld [],.ld [],.ld [7],.cl (.bool (t.args1.all (fun x=>hasD ps D x n))),.ld [],.pk] [3,4,5,6,38] [(.e 3 (.I n)),(.e 4 (.P n5)),(.e 5 (.P n9)),(.e 6 (.P n13)),(.e 38 (.bool (((!(t.args.all (fun x=>hasD ps D x n)))||(!(t.args0.all (fun x=>hasD ps D x n))))||(!(t.args1.all (fun x=>hasD ps D x n))))))] [] [] [([],155,#[(.agg #[.I ps,.map (some mb)]),(.I n),(.slice C2 t.args.length l2)],(.bool (t.args.all (fun x=>hasD ps D x n)))),([(6,false)],155,#[(.agg #[.I ps,.map (some mb)]),(.I n),(.slice C3 t.args0.length l3)],(.bool (t.args0.all (fun x=>hasD ps D x n)))),([(16,false)],155,#[(.agg #[.I ps,.map (some mb)]),(.I n),(.slice C4 t.args1.length l4)],(.bool (t.args1.all (fun x=>hasD ps D x n))))] [] hR hM mix (by kernel_rfl) (by kernel_rfl) (by kernel_rfl) (by kernel_rfl) trivial trivial (fun w' hb' hM'=>trivial) (fun w' hb' hM'=>⟨fun hg=>scAll_any _ _ _ _ (h2.below (hB.tr hb')) _ _ _ hp (hD.below (hB.tr hb')),fun hg=>scAll_any _ _ _ _ (h3.below (hB.tr hb')) _ _ _ hp (hD.below (hB.tr hb')),fun hg=>scAll_any _ _ _ _ (h4.below (hB.tr hb')) _ _ _ hp (hD.below (hB.tr hb')),trivial⟩) ?_
 clear hR hM; intro a19 w20 hR hb21 hM
 replace hB:=hB.tr hb21
 replace hkn5:=SX.blk_below hkn5 hb21
 replace hkn9:=SX.blk_below hkn9 hb21
 replace hkn13:=SX.blk_below hkn13 hb21
 refine hK18 _ _ ?_
 refine SX.cond_ (((!(t.args.all (fun x=>hasD ps D x n)))||(!(t.args0.all (fun x=>hasD ps D x n))))||(!(t.args1.all (fun x=>hasD ps D x n)))) hR (by kernel_rfl) (fun h22=>?_) (fun h22=>?_)
 ·skip
  refine wp_seq_k fun K23 hK23=>?_
  refine SX.region_q0 [.ld []] [8] [(.e 8 (.bool false))] hR hM mix (by kernel_rfl) (by kernel_rfl) (by kernel_rfl) (by kernel_rfl) ?_
  clear hR hM; intro a24 w25 hR hb26 hM
  replace hB:=hB.tr hb26
  replace hkn5:=SX.blk_below hkn5 hb26
  replace hkn9:=SX.blk_below hkn9 hb26
  replace hkn13:=SX.blk_below hkn13 hb26
  refine hK23 _ _ ?_
  refine wp_ret ?_
  try simp only [Exit.then,Exit.inBlock,Nat.reduceEqDiff,↓reduceIte]
  refine SX.ret_ 8 (.bool false) Try.results130 hR (by kernel_rfl) ?_
  clear hR hM mix hK1 hzn5 hb4 hkn5 hln5 hn5 hzn9 qn5n9 hb8 hkn9 hln9 hn9 hzn13 qn5n13 qn9n13 hb12 hkn13 hln13 hn13 hb16 hK17 hK18 hb21 hK23 hb26
  refine ⟨ret_bool ?_,hB⟩
  clear hB hp hD h h0 h2 h3 h4
  unfold rightTermH
  simp only [h22,↓reduceIte]
 ·skip
  refine wp_skip ?_
  refine hK17 _ _ ?_
  refine wp_seq_k fun K27 hK27=>?_
  refine SX.region_q0 [.ld []] [3,4,5,6,9] [(.e 3 (.I n)),(.e 4 (.P n5)),(.e 5 (.P n9)),(.e 6 (.P n13)),(.e 9 (.I 0))] hR hM mix (by kernel_rfl) (by kernel_rfl) (by kernel_rfl) (by kernel_rfl) ?_
  clear hR hM; intro a28 w29 hR hb30 hM
  replace hB:=hB.tr hb30
  replace hkn5:=SX.blk_below hkn5 hb30
  replace hkn9:=SX.blk_below hkn9 hb30
  replace hkn13:=SX.blk_below hkn13 hb30
  refine hK27 _ _ ?_
  refine SX.seq_cut (fun a' w'=>∃ m:Nat,SX.RSt 134 [] [(.e 3 (.I n)),(.e 4 (.P n5)),(.e 5 (.P n9)),(.e 6 (.P n13)),(.e 9 (.I ((m:Nat):Int)))] a'∧Below w.heap.size w w'∧SX.Cells w' [(⟨n13,0,none⟩,(.I t.kind)),(⟨n13,1,none⟩,(.I t.a)),(⟨n13,2,none⟩,(.I t.n)),(⟨n13,3,none⟩,(.slice C2 t.args.length l2)),(⟨n13,4,none⟩,(.I t.b0)),(⟨n13,5,none⟩,(.slice C3 t.args0.length l3)),(⟨n13,6,none⟩,(.I t.b1)),(⟨n13,7,none⟩,(.slice C4 t.args1.length l4)),(⟨n9,0,none⟩,(.I ps)),(⟨n9,1,none⟩,(.map (some mb))),(⟨n5,0,none⟩,(.I c.params)),(⟨n5,1,none⟩,(.slice A1 c.blocks.length k1)),(⟨n5,2,none⟩,(.slice A2 c.contexts.length k2)),(⟨n5,3,none⟩,(.slice A3 c.objects.length k3))]∧(P.edges t=some m∧m≤2)) ?_ ?_
  ·skip
   refine wp_seq_k fun K31 hK31=>?_
   refine SX.region_q0 [.ld [],.ld [0]] [3,4,5,6,9,40] [(.e 3 (.I n)),(.e 4 (.P n5)),(.e 5 (.P n9)),(.e 6 (.P n13)),(.e 9 (.I 0)),(.e 40 (.I t.kind))] hR hM mix (by kernel_rfl) (by kernel_rfl) (by kernel_rfl) (by kernel_rfl) ?_
   clear hR hM; intro a32 w33 hR hb34 hM
   replace hB:=hB.tr hb34
   replace hkn5:=SX.blk_below hkn5 hb34
   replace hkn9:=SX.blk_below hkn9 hb34
   replace hkn13:=SX.blk_below hkn13 hb34
   refine hK31 _ _ ?_
   refine wp_block ?_
   refine wp_seq_k fun K35 hK35=>?_
   refine SX.region_q0 [.ld [],.ld []] [3,4,5,6,9,40,41] [(.e 3 (.I n)),(.e 4 (.P n5)),(.e 5 (.P n9)),(.e 6 (.P n13)),(.e 9 (.I 0)),(.e 40 (.I t.kind)),(.e 41 (.bool (t.kind==1)))] hR hM mix (by kernel_rfl) (by kernel_rfl) (by kernel_rfl) (by kernel_rfl) ?_
   clear hR hM; intro a36 w37 hR hb38 hM
   replace hB:=hB.tr hb38
   replace hkn5:=SX.blk_below hkn5 hb38
   replace hkn9:=SX.blk_below hkn9 hb38
   replace hkn13:=SX.blk_below hkn13 hb38
   refine hK35 _ _ ?_
   refine SX.cond_ (t.kind==1) hR (by kernel_rfl) (fun h39=>?_) (fun h39=>?_)
   ·skip
    refine SX.region_q0 [.ld []] [3,4,5,6,9] [(.e 3 (.I n)),(.e 4 (.P n5)),(.e 5 (.P n9)),(.e 6 (.P n13)),(.e 9 (.I 1))] hR hM mix (by kernel_rfl) (by kernel_rfl) (by kernel_rfl) (by kernel_rfl) ?_
    clear hR hM; intro a40 w41 hR hb42 hM
    replace hB:=hB.tr hb42
    replace hkn5:=SX.blk_below hkn5 hb42
    replace hkn9:=SX.blk_below hkn9 hb42
    replace hkn13:=SX.blk_below hkn13 hb42
    exact ⟨1,hR.keep (ts:=[3,4,5,6,9]) (by kernel_rfl),hB,SX.cells_sub hM [0,1,2,3,4,5,6,7,8,9,10,11,12,13] (by kernel_rfl),⟨by unfold P.edges; simp [show t.kind=1 from by simpa using h39],by omega⟩⟩
   ·skip
    refine wp_seq_k fun K43 hK43=>?_
    refine SX.region_q0 [.ld [],.ld []] [3,4,5,6,9,40,43] [(.e 3 (.I n)),(.e 4 (.P n5)),(.e 5 (.P n9)),(.e 6 (.P n13)),(.e 9 (.I 0)),(.e 40 (.I t.kind)),(.e 43 (.bool (t.kind==2)))] hR hM mix (by kernel_rfl) (by kernel_rfl) (by kernel_rfl) (by kernel_rfl) ?_
    clear hR hM; intro a44 w45 hR hb46 hM
    replace hB:=hB.tr hb46
    replace hkn5:=SX.blk_below hkn5 hb46
    replace hkn9:=SX.blk_below hkn9 hb46
    replace hkn13:=SX.blk_below hkn13 hb46
    refine hK43 _ _ ?_
    refine SX.cond_ (t.kind==2) hR (by kernel_rfl) (fun h47=>?_) (fun h47=>?_)
    ·skip
     refine SX.region_q0 [.ld []] [3,4,5,6,9] [(.e 3 (.I n)),(.e 4 (.P n5)),(.e 5 (.P n9)),(.e 6 (.P n13)),(.e 9 (.I 2))] hR hM mix (by kernel_rfl) (by kernel_rfl) (by kernel_rfl) (by kernel_rfl) ?_
     clear hR hM; intro a48 w49 hR hb50 hM
     replace hB:=hB.tr hb50
     replace hkn5:=SX.blk_below hkn5 hb50
     replace hkn9:=SX.blk_below hkn9 hb50
     replace hkn13:=SX.blk_below hkn13 hb50
     exact ⟨2,hR.keep (ts:=[3,4,5,6,9]) (by kernel_rfl),hB,SX.cells_sub hM [0,1,2,3,4,5,6,7,8,9,10,11,12,13] (by kernel_rfl),⟨by unfold P.edges; simp [show t.kind=2 from by simpa using h47],by omega⟩⟩
    ·skip
     refine wp_seq_k fun K51 hK51=>?_
     refine SX.region_q0 [.ld [],.ld []] [3,4,5,6,9,40,45] [(.e 3 (.I n)),(.e 4 (.P n5)),(.e 5 (.P n9)),(.e 6 (.P n13)),(.e 9 (.I 0)),(.e 40 (.I t.kind)),(.e 45 (.bool (t.kind==3)))] hR hM mix (by kernel_rfl) (by kernel_rfl) (by kernel_rfl) (by kernel_rfl) ?_
     clear hR hM; intro a52 w53 hR hb54 hM
     replace hB:=hB.tr hb54
     replace hkn5:=SX.blk_below hkn5 hb54
     replace hkn9:=SX.blk_below hkn9 hb54
     replace hkn13:=SX.blk_below hkn13 hb54
     refine hK51 _ _ ?_
     refine SX.cond_ (t.kind==3) hR (by kernel_rfl) (fun h55=>?_) (fun h55=>?_)
     ·skip
      refine wp_seq_k fun K56 hK56=>?_
      refine SX.region_q0 [.ld []] [3,4,5,6,9] [(.e 3 (.I n)),(.e 4 (.P n5)),(.e 5 (.P n9)),(.e 6 (.P n13)),(.e 9 (.I 1))] hR hM mix (by kernel_rfl) (by kernel_rfl) (by kernel_rfl) (by kernel_rfl) ?_
      clear hR hM; intro a57 w58 hR hb59 hM
      replace hB:=hB.tr hb59
      replace hkn5:=SX.blk_below hkn5 hb59
      replace hkn9:=SX.blk_below hkn9 hb59
      replace hkn13:=SX.blk_below hkn13 hb59
      refine hK56 _ _ ?_
      refine wp_seq_k fun K60 hK60=>?_
      refine SX.region_q [] [.ld [],.ld [],.ld [6,7],.cl (.bool (P.absent t.b1 t.args1)),.ld []] [3,4,5,6,9,51] [(.e 3 (.I n)),(.e 4 (.P n5)),(.e 5 (.P n9)),(.e 6 (.P n13)),(.e 9 (.I 1)),(.e 51 (.bool (!(P.absent t.b1 t.args1))))] [] [] [([],156,#[(.agg #[.I t.b1,.slice C4 t.args1.length l4])],(.bool (P.absent t.b1 t.args1)))] [] hR hM mix (by kernel_rfl) (by kernel_rfl) (by kernel_rfl) (by kernel_rfl) trivial trivial (fun w' hb' hM'=>trivial) (fun w' hb' hM'=>⟨fun hg=>absent_any _ _ _ _ (h4.below (hB.tr hb')),trivial⟩) ?_
      clear hR hM; intro a61 w62 hR hb63 hM
      replace hB:=hB.tr hb63
      replace hkn5:=SX.blk_below hkn5 hb63
      replace hkn9:=SX.blk_below hkn9 hb63
      replace hkn13:=SX.blk_below hkn13 hb63
      refine hK60 _ _ ?_
      refine SX.cond_ (!(P.absent t.b1 t.args1)) hR (by kernel_rfl) (fun h64=>?_) (fun h64=>?_)
      ·skip
       refine SX.region_q0 [.ld []] [3,4,5,6,9] [(.e 3 (.I n)),(.e 4 (.P n5)),(.e 5 (.P n9)),(.e 6 (.P n13)),(.e 9 (.I 2))] hR hM mix (by kernel_rfl) (by kernel_rfl) (by kernel_rfl) (by kernel_rfl) ?_
       clear hR hM; intro a65 w66 hR hb67 hM
       replace hB:=hB.tr hb67
       replace hkn5:=SX.blk_below hkn5 hb67
       replace hkn9:=SX.blk_below hkn9 hb67
       replace hkn13:=SX.blk_below hkn13 hb67
       exact ⟨2,hR.keep (ts:=[3,4,5,6,9]) (by kernel_rfl),hB,SX.cells_sub hM [0,1,2,3,4,5,6,7,8,9,10,11,12,13] (by kernel_rfl),⟨by unfold P.edges; simp [show t.kind=3 from by simpa using h55,show _ from h64],by omega⟩⟩
      ·skip
       refine wp_skip ?_
       exact ⟨1,hR.keep (ts:=[3,4,5,6,9]) (by kernel_rfl),hB,SX.cells_sub hM [0,1,2,3,4,5,6,7,8,9,10,11,12,13] (by kernel_rfl),⟨by unfold P.edges; simp [show t.kind=3 from by simpa using h55,show _ from h64],by omega⟩⟩
     ·skip
      refine wp_seq_k fun K68 hK68=>?_
      refine wp_seq_k fun K69 hK69=>?_
      refine SX.region_q0 [.ld [],.ld []] [3,4,5,6,9,40,52] [(.e 3 (.I n)),(.e 4 (.P n5)),(.e 5 (.P n9)),(.e 6 (.P n13)),(.e 9 (.I 0)),(.e 40 (.I t.kind)),(.e 52 (.bool (t.kind==4)))] hR hM mix (by kernel_rfl) (by kernel_rfl) (by kernel_rfl) (by kernel_rfl) ?_
      clear hR hM; intro a70 w71 hR hb72 hM
      replace hB:=hB.tr hb72
      replace hkn5:=SX.blk_below hkn5 hb72
      replace hkn9:=SX.blk_below hkn9 hb72
      replace hkn13:=SX.blk_below hkn13 hb72
      refine hK69 _ _ ?_
      refine SX.cond_ (t.kind==4) hR (by kernel_rfl) (fun h73=>?_) (fun h73=>?_)
      ·skip
       refine wp_skip ?_
       refine hK68 _ _ ?_
       refine SX.cond_ (t.kind==4) hR (by kernel_rfl) (fun h74=>?_) (fun h74=>nomatch (h73.symm.trans h74))
       refine wp_skip ?_
       exact ⟨0,hR.keep (ts:=[3,4,5,6,9]) (by kernel_rfl),hB,SX.cells_sub hM [0,1,2,3,4,5,6,7,8,9,10,11,12,13] (by kernel_rfl),⟨by unfold P.edges; simp [show t.kind=4 from by simpa using h73],by omega⟩⟩
      ·skip
       refine wp_seq_k fun K75 hK75=>?_
       refine SX.region_q0 [.ld [],.ld []] [3,4,5,6,9,40,52] [(.e 3 (.I n)),(.e 4 (.P n5)),(.e 5 (.P n9)),(.e 6 (.P n13)),(.e 9 (.I 0)),(.e 40 (.I t.kind)),(.e 52 (.bool (t.kind==5)))] hR hM mix (by kernel_rfl) (by kernel_rfl) (by kernel_rfl) (by kernel_rfl) ?_
       clear hR hM; intro a76 w77 hR hb78 hM
       replace hB:=hB.tr hb78
       replace hkn5:=SX.blk_below hkn5 hb78
       replace hkn9:=SX.blk_below hkn9 hb78
       replace hkn13:=SX.blk_below hkn13 hb78
       refine hK75 _ _ ?_
       refine SX.cond_ (t.kind==5) hR (by kernel_rfl) (fun h79=>?_) (fun h79=>?_)
       ·skip
        refine wp_skip ?_
        refine hK68 _ _ ?_
        refine SX.cond_ (t.kind==5) hR (by kernel_rfl) (fun h80=>?_) (fun h80=>nomatch (h79.symm.trans h80))
        refine wp_skip ?_
        exact ⟨0,hR.keep (ts:=[3,4,5,6,9]) (by kernel_rfl),hB,SX.cells_sub hM [0,1,2,3,4,5,6,7,8,9,10,11,12,13] (by kernel_rfl),⟨by unfold P.edges; simp [show t.kind=5 from by simpa using h79],by omega⟩⟩
       ·skip
        refine SX.region_q0 [.ld [],.ld []] [3,4,5,6,9,52] [(.e 3 (.I n)),(.e 4 (.P n5)),(.e 5 (.P n9)),(.e 6 (.P n13)),(.e 9 (.I 0)),(.e 52 (.bool (t.kind==6)))] hR hM mix (by kernel_rfl) (by kernel_rfl) (by kernel_rfl) (by kernel_rfl) ?_
        clear hR hM; intro a81 w82 hR hb83 hM
        replace hB:=hB.tr hb83
        replace hkn5:=SX.blk_below hkn5 hb83
        replace hkn9:=SX.blk_below hkn9 hb83
        replace hkn13:=SX.blk_below hkn13 hb83
        refine hK68 _ _ ?_
        refine SX.cond_ (t.kind==6) hR (by kernel_rfl) (fun h84=>?_) (fun h84=>?_)
        ·skip
         refine wp_skip ?_
         exact ⟨0,hR.keep (ts:=[3,4,5,6,9]) (by kernel_rfl),hB,SX.cells_sub hM [0,1,2,3,4,5,6,7,8,9,10,11,12,13] (by kernel_rfl),⟨by unfold P.edges; simp [show t.kind=6 from by simpa using h84],by omega⟩⟩
        ·skip
         refine wp_seq_k fun K85 hK85=>?_
         refine SX.region_q0 [.ld []] [3,4,5,6,8,9] [(.e 3 (.I n)),(.e 4 (.P n5)),(.e 5 (.P n9)),(.e 6 (.P n13)),(.e 8 (.bool false)),(.e 9 (.I 0))] hR hM mix (by kernel_rfl) (by kernel_rfl) (by kernel_rfl) (by kernel_rfl) ?_
         clear hR hM; intro a86 w87 hR hb88 hM
         replace hB:=hB.tr hb88
         replace hkn5:=SX.blk_below hkn5 hb88
         replace hkn9:=SX.blk_below hkn9 hb88
         replace hkn13:=SX.blk_below hkn13 hb88
         refine hK85 _ _ ?_
         refine wp_ret ?_
         try simp only [Exit.then,Exit.inBlock,Nat.reduceEqDiff,↓reduceIte]
         refine SX.ret_ 8 (.bool false) Try.results130 hR (by kernel_rfl) ?_
         clear hR hM mix hK1 hzn5 hb4 hkn5 hln5 hn5 hzn9 qn5n9 hb8 hkn9 hln9 hn9 hzn13 qn5n13 qn9n13 hb12 hkn13 hln13 hn13 hb16 hK17 hK18 hb21 hK27 hb30 hK31 hb34 hK35 hb38 hK43 hb46 hK51 hb54 hK68 hK69 hb72 hK75 hb78 hb83 hK85 hb88
         refine ⟨ret_bool ?_,hB⟩
         clear hB hp hD h h0 h2 h3 h4
         unfold rightTermH
         simp only [h22,Bool.false_eq_true,↓reduceIte]
         unfold P.edges
         simp_all
  ·skip
   clear hR hM hB
   rintro a89 w90 ⟨m,hR,hB,hM,hc4⟩
   refine SX.seq_cut (fun a' w'=>SX.RSt 134 [] [(.e 4 (.P n5)),(.e 6 (.P n13)),(.e 9 (.I ((m:Nat):Int)))] a'∧Below w.heap.size w w'∧SX.Cells w' [(⟨n13,0,none⟩,(.I t.kind)),(⟨n13,1,none⟩,(.I t.a)),(⟨n13,2,none⟩,(.I t.n)),(⟨n13,3,none⟩,(.slice C2 t.args.length l2)),(⟨n13,4,none⟩,(.I t.b0)),(⟨n13,5,none⟩,(.slice C3 t.args0.length l3)),(⟨n13,6,none⟩,(.I t.b1)),(⟨n13,7,none⟩,(.slice C4 t.args1.length l4)),(⟨n9,0,none⟩,(.I ps)),(⟨n9,1,none⟩,(.map (some mb))),(⟨n5,0,none⟩,(.I c.params)),(⟨n5,1,none⟩,(.slice A1 c.blocks.length k1)),(⟨n5,2,none⟩,(.slice A2 c.contexts.length k2)),(⟨n5,3,none⟩,(.slice A3 c.objects.length k3))]∧(if t.kind==2||t.kind==4||t.kind==5 then !hasD ps D t.a n else t.a != 0)=false) ?_ ?_
   ·skip
    refine wp_seq_k fun K91 hK91=>?_
    refine SX.region_q [(3,(t.kind==2)),(8,((t.kind==2)||(t.kind==4)))] [.ld [],.ld [0],.ld [],.ld [],.ld [],.ld [0],.ld [],.pk,.ld [],.ld [],.ld [0],.ld [],.pk,.ld []] [3,4,5,6,9,10] [(.e 3 (.I n)),(.e 4 (.P n5)),(.e 5 (.P n9)),(.e 6 (.P n13)),(.e 9 (.I ((m:Nat):Int))),(.e 10 (.bool (((t.kind==2)||(t.kind==4))||(t.kind==5))))] [] [] [] [] hR hM mix (by kernel_rfl) (by kernel_rfl) (by kernel_rfl) (by kernel_rfl) trivial trivial (fun w' hb' hM'=>trivial) (fun w' hb' hM'=>trivial) ?_
    clear hR hM; intro a92 w93 hR hb94 hM
    replace hB:=hB.tr hb94
    refine hK91 _ _ ?_
    refine wp_seq_k fun K95 hK95=>?_
    refine SX.region_q0 [.ld []] [3,4,5,6,9,69] [(.e 3 (.I n)),(.e 4 (.P n5)),(.e 5 (.P n9)),(.e 6 (.P n13)),(.e 9 (.I ((m:Nat):Int))),(.e 69 (.bool (((t.kind==2)||(t.kind==4))||(t.kind==5))))] hR hM mix (by kernel_rfl) (by kernel_rfl) (by kernel_rfl) (by kernel_rfl) ?_
    clear hR hM; intro a96 w97 hR hb98 hM
    replace hB:=hB.tr hb98
    refine hK95 _ _ ?_
    refine SX.cond_ (((t.kind==2)||(t.kind==4))||(t.kind==5)) hR (by kernel_rfl) (fun h99=>?_) (fun h99=>?_)
    ·skip
     refine wp_seq_k fun K100 hK100=>?_
     refine SX.region_q [] [.ld [8,9],.ld [],.ld [1],.ld [],.cl (.bool (hasD ps D t.a n)),.ld []] [4,6,9,75] [(.e 4 (.P n5)),(.e 6 (.P n13)),(.e 9 (.I ((m:Nat):Int))),(.e 75 (.bool (!(hasD ps D t.a n))))] [] [] [([],154,#[(.agg #[.I ps,.map (some mb)]),(.I t.a),(.I n)],(.bool (hasD ps D t.a n)))] [] hR hM mix (by kernel_rfl) (by kernel_rfl) (by kernel_rfl) (by kernel_rfl) trivial trivial (fun w' hb' hM'=>trivial) (fun w' hb' hM'=>⟨fun hg=>sc_has _ _ _ _ _ _ hp (hD.below (hB.tr hb')),trivial⟩) ?_
     clear hR hM; intro a101 w102 hR hb103 hM
     replace hB:=hB.tr hb103
     refine hK100 _ _ ?_
     refine SX.cond_ (!(hasD ps D t.a n)) hR (by kernel_rfl) (fun h104=>?_) (fun h104=>?_)
     ·skip
      refine wp_seq_k fun K105 hK105=>?_
      refine SX.region_q0 [.ld []] [4,6,8,9] [(.e 4 (.P n5)),(.e 6 (.P n13)),(.e 8 (.bool false)),(.e 9 (.I ((m:Nat):Int)))] hR hM mix (by kernel_rfl) (by kernel_rfl) (by kernel_rfl) (by kernel_rfl) ?_
      clear hR hM; intro a106 w107 hR hb108 hM
      replace hB:=hB.tr hb108
      refine hK105 _ _ ?_
      refine wp_ret ?_
      try simp only [Exit.then,Exit.inBlock,Nat.reduceEqDiff,↓reduceIte]
      refine SX.ret_ 8 (.bool false) Try.results130 hR (by kernel_rfl) ?_
      clear hR hM mix hK1 hzn5 hb4 hkn5 hln5 hn5 hzn9 qn5n9 hb8 hkn9 hln9 hn9 hzn13 qn5n13 qn9n13 hb12 hkn13 hln13 hn13 hb16 hK17 hK18 hb21 hK27 hb30 hK91 hb94 hK95 hb98 hK100 hb103 hK105 hb108
      refine ⟨ret_bool ?_,hB⟩
      clear hB hp hD h h0 h2 h3 h4
      unfold rightTermH
      simp only [h22,Bool.false_eq_true,↓reduceIte]
      rw [hc4.1]
      simp_all
     ·skip
      refine wp_skip ?_
      exact ⟨hR.keep (ts:=[4,6,9]) (by kernel_rfl),hB,SX.cells_sub hM [0,1,2,3,4,5,6,7,8,9,10,11,12,13] (by kernel_rfl),by (try simp only [lt4,ne0] at *); simp only [h99,Bool.false_eq_true,↓reduceIte]; exact h104⟩
    ·skip
     refine wp_seq_k fun K109 hK109=>?_
     refine SX.region_q0 [.ld [],.ld [1],.ld []] [4,6,9,78] [(.e 4 (.P n5)),(.e 6 (.P n13)),(.e 9 (.I ((m:Nat):Int))),(.e 78 (.bool (t.a != 0)))] hR hM mix (by kernel_rfl) (by kernel_rfl) (by kernel_rfl) (by kernel_rfl) ?_
     clear hR hM; intro a110 w111 hR hb112 hM
     replace hB:=hB.tr hb112
     refine hK109 _ _ ?_
     refine SX.cond_ (t.a != 0) hR (by kernel_rfl) (fun h113=>?_) (fun h113=>?_)
     ·skip
      refine wp_seq_k fun K114 hK114=>?_
      refine SX.region_q0 [.ld []] [4,6,8,9] [(.e 4 (.P n5)),(.e 6 (.P n13)),(.e 8 (.bool false)),(.e 9 (.I ((m:Nat):Int)))] hR hM mix (by kernel_rfl) (by kernel_rfl) (by kernel_rfl) (by kernel_rfl) ?_
      clear hR hM; intro a115 w116 hR hb117 hM
      replace hB:=hB.tr hb117
      refine hK114 _ _ ?_
      refine wp_ret ?_
      try simp only [Exit.then,Exit.inBlock,Nat.reduceEqDiff,↓reduceIte]
      refine SX.ret_ 8 (.bool false) Try.results130 hR (by kernel_rfl) ?_
      clear hR hM mix hK1 hzn5 hb4 hkn5 hln5 hn5 hzn9 qn5n9 hb8 hkn9 hln9 hn9 hzn13 qn5n13 qn9n13 hb12 hkn13 hln13 hn13 hb16 hK17 hK18 hb21 hK27 hb30 hK91 hb94 hK95 hb98 hK109 hb112 hK114 hb117
      refine ⟨ret_bool ?_,hB⟩
      clear hB hp hD h h0 h2 h3 h4
      unfold rightTermH
      simp only [h22,Bool.false_eq_true,↓reduceIte]
      rw [hc4.1]
      simp_all
     ·skip
      refine wp_skip ?_
      exact ⟨hR.keep (ts:=[4,6,9]) (by kernel_rfl),hB,SX.cells_sub hM [0,1,2,3,4,5,6,7,8,9,10,11,12,13] (by kernel_rfl),by (try simp only [lt4,ne0] at *); simp only [h99,Bool.false_eq_true,↓reduceIte]; exact h113⟩
   ·skip
    clear hR hM hB
    rintro a118 w119 ⟨hR,hB,hM,hc17⟩
    refine SX.seq_cut (fun a' w'=>SX.RSt 134 [] [(.e 4 (.P n5)),(.e 6 (.P n13)),(.e 9 (.I ((m:Nat):Int)))] a'∧Below w.heap.size w w'∧SX.Cells w' [(⟨n13,0,none⟩,(.I t.kind)),(⟨n13,1,none⟩,(.I t.a)),(⟨n13,2,none⟩,(.I t.n)),(⟨n13,3,none⟩,(.slice C2 t.args.length l2)),(⟨n13,4,none⟩,(.I t.b0)),(⟨n13,5,none⟩,(.slice C3 t.args0.length l3)),(⟨n13,6,none⟩,(.I t.b1)),(⟨n13,7,none⟩,(.slice C4 t.args1.length l4)),(⟨n9,0,none⟩,(.I ps)),(⟨n9,1,none⟩,(.map (some mb))),(⟨n5,0,none⟩,(.I c.params)),(⟨n5,1,none⟩,(.slice A1 c.blocks.length k1)),(⟨n5,2,none⟩,(.slice A2 c.contexts.length k2)),(⟨n5,3,none⟩,(.slice A3 c.objects.length k3))]∧(if t.kind==3||t.kind==6 then !P.within t.n 7||decide (4<t.args.length) else t.n != 0||t.args.length != 0)=false) ?_ ?_
    ·skip
     refine wp_seq_k fun K120 hK120=>?_
     refine SX.region_q [(3,(t.kind==3))] [.ld [],.ld [0],.ld [],.ld [],.ld [],.ld [0],.ld [],.pk] [4,6,9,86] [(.e 4 (.P n5)),(.e 6 (.P n13)),(.e 9 (.I ((m:Nat):Int))),(.e 86 (.bool ((t.kind==3)||(t.kind==6))))] [] [] [] [] hR hM mix (by kernel_rfl) (by kernel_rfl) (by kernel_rfl) (by kernel_rfl) trivial trivial (fun w' hb' hM'=>trivial) (fun w' hb' hM'=>trivial) ?_
     clear hR hM; intro a121 w122 hR hb123 hM
     replace hB:=hB.tr hb123
     refine hK120 _ _ ?_
     refine SX.cond_ ((t.kind==3)||(t.kind==6)) hR (by kernel_rfl) (fun h124=>?_) (fun h124=>?_)
     ·skip
      refine wp_seq_k fun K125 hK125=>?_
      refine SX.region_q [(4,(!(P.within t.n 7)))] [.ld [],.ld [2],.cl (.bool (P.within t.n 7)),.ld [],.ld [],.ld [],.ld [3],.ld [],.ld [],.pk] [4,6,9,96] [(.e 4 (.P n5)),(.e 6 (.P n13)),(.e 9 (.I ((m:Nat):Int))),(.e 96 (.bool ((!(P.within t.n 7))||decide (4<((t.args.length:Nat):Int)))))] [] [] [([],84,#[(.I t.n),(.I 7)],(.bool (P.within t.n 7)))] [] hR hM mix (by kernel_rfl) (by kernel_rfl) (by kernel_rfl) (by kernel_rfl) trivial trivial (fun w' hb' hM'=>trivial) (fun w' hb' hM'=>⟨fun hg=>SX.pureC (within_any _ _ _),trivial⟩) ?_
      clear hR hM; intro a126 w127 hR hb128 hM
      replace hB:=hB.tr hb128
      refine hK125 _ _ ?_
      refine SX.cond_ ((!(P.within t.n 7))||decide (4<((t.args.length:Nat):Int))) hR (by kernel_rfl) (fun h129=>?_) (fun h129=>?_)
      ·skip
       refine wp_seq_k fun K130 hK130=>?_
       refine SX.region_q0 [.ld []] [4,6,8,9] [(.e 4 (.P n5)),(.e 6 (.P n13)),(.e 8 (.bool false)),(.e 9 (.I ((m:Nat):Int)))] hR hM mix (by kernel_rfl) (by kernel_rfl) (by kernel_rfl) (by kernel_rfl) ?_
       clear hR hM; intro a131 w132 hR hb133 hM
       replace hB:=hB.tr hb133
       refine hK130 _ _ ?_
       refine wp_ret ?_
       try simp only [Exit.then,Exit.inBlock,Nat.reduceEqDiff,↓reduceIte]
       refine SX.ret_ 8 (.bool false) Try.results130 hR (by kernel_rfl) ?_
       clear hR hM mix hK1 hzn5 hb4 hkn5 hln5 hn5 hzn9 qn5n9 hb8 hkn9 hln9 hn9 hzn13 qn5n13 qn9n13 hb12 hkn13 hln13 hn13 hb16 hK17 hK18 hb21 hK27 hb30 hK120 hb123 hK125 hb128 hK130 hb133
       refine ⟨ret_bool ?_,hB⟩
       clear hB hp hD h h0 h2 h3 h4
       unfold rightTermH
       simp only [h22,Bool.false_eq_true,↓reduceIte]
       rw [hc4.1]
       simp only [hc17,Bool.false_eq_true,↓reduceIte]
       simp only [lt4,ne0] at *
       simp_all
      ·skip
       refine wp_skip ?_
       exact ⟨hR.keep (ts:=[4,6,9]) (by kernel_rfl),hB,SX.cells_sub hM [0,1,2,3,4,5,6,7,8,9,10,11,12,13] (by kernel_rfl),by (try simp only [lt4,ne0] at *); simp only [h124,Bool.false_eq_true,↓reduceIte]; exact h129⟩
     ·skip
      refine wp_seq_k fun K134 hK134=>?_
      refine SX.region_q [(3,(t.n != 0))] [.ld [],.ld [2],.ld [],.ld [],.ld [],.ld [3],.ld [],.ld [],.pk] [4,6,9,105] [(.e 4 (.P n5)),(.e 6 (.P n13)),(.e 9 (.I ((m:Nat):Int))),(.e 105 (.bool ((t.n != 0)||(((t.args.length:Nat):Int) != 0))))] [] [] [] [] hR hM mix (by kernel_rfl) (by kernel_rfl) (by kernel_rfl) (by kernel_rfl) trivial trivial (fun w' hb' hM'=>trivial) (fun w' hb' hM'=>trivial) ?_
      clear hR hM; intro a135 w136 hR hb137 hM
      replace hB:=hB.tr hb137
      refine hK134 _ _ ?_
      refine SX.cond_ ((t.n != 0)||(((t.args.length:Nat):Int) != 0)) hR (by kernel_rfl) (fun h138=>?_) (fun h138=>?_)
      ·skip
       refine wp_seq_k fun K139 hK139=>?_
       refine SX.region_q0 [.ld []] [4,6,8,9] [(.e 4 (.P n5)),(.e 6 (.P n13)),(.e 8 (.bool false)),(.e 9 (.I ((m:Nat):Int)))] hR hM mix (by kernel_rfl) (by kernel_rfl) (by kernel_rfl) (by kernel_rfl) ?_
       clear hR hM; intro a140 w141 hR hb142 hM
       replace hB:=hB.tr hb142
       refine hK139 _ _ ?_
       refine wp_ret ?_
       try simp only [Exit.then,Exit.inBlock,Nat.reduceEqDiff,↓reduceIte]
       refine SX.ret_ 8 (.bool false) Try.results130 hR (by kernel_rfl) ?_
       clear hR hM mix hK1 hzn5 hb4 hkn5 hln5 hn5 hzn9 qn5n9 hb8 hkn9 hln9 hn9 hzn13 qn5n13 qn9n13 hb12 hkn13 hln13 hn13 hb16 hK17 hK18 hb21 hK27 hb30 hK120 hb123 hK134 hb137 hK139 hb142
       refine ⟨ret_bool ?_,hB⟩
       clear hB hp hD h h0 h2 h3 h4
       unfold rightTermH
       simp only [h22,Bool.false_eq_true,↓reduceIte]
       rw [hc4.1]
       simp only [hc17,Bool.false_eq_true,↓reduceIte]
       simp only [lt4,ne0] at *
       simp_all
      ·skip
       refine wp_skip ?_
       exact ⟨hR.keep (ts:=[4,6,9]) (by kernel_rfl),hB,SX.cells_sub hM [0,1,2,3,4,5,6,7,8,9,10,11,12,13] (by kernel_rfl),by (try simp only [lt4,ne0] at *); simp only [h124,Bool.false_eq_true,↓reduceIte]; exact h138⟩
    ·skip
     clear hR hM hB
     rintro a143 w144 ⟨hR,hB,hM,hc23⟩
     refine wp_seq_k fun K145 hK145=>?_
     refine wp_seq_k fun K146 hK146=>?_
     refine SX.region_q0 [.ld [],.ld [4,5,6,7],.ld []] [4,6,9,107,108] [(.e 4 (.P n5)),(.e 6 (.P n13)),(.e 9 (.I ((m:Nat):Int))),(.e 107 (.agg #[.I t.b0,.slice C3 t.args0.length l3,.I t.b1,.slice C4 t.args1.length l4])),(.e 108 (.I 0))] hR hM mix (by kernel_rfl) (by kernel_rfl) (by kernel_rfl) (by kernel_rfl) ?_
     clear hR hM; intro a147 w148 hR hb149 hM
     replace hB:=hB.tr hb149
     refine hK146 _ _ ?_
     refine wp_block ?_
     refine wp_loop_rounds 3 ?_
     rw [rounds_succ]
     refine wp_seq_k fun K150 hK150=>?_
     refine SX.region_q0 [.ld []] [4,6,9,107,108,109] [(.e 4 (.P n5)),(.e 6 (.P n13)),(.e 9 (.I ((m:Nat):Int))),(.e 107 (.agg #[.I t.b0,.slice C3 t.args0.length l3,.I t.b1,.slice C4 t.args1.length l4])),(.e 108 (.I 0)),(.e 109 (.bool true))] hR hM mix (by kernel_rfl) (by kernel_rfl) (by kernel_rfl) (by kernel_rfl) ?_
     clear hR hM; intro a151 w152 hR hb153 hM
     replace hB:=hB.tr hb153
     refine hK150 _ _ ?_
     refine wp_seq_k fun K154 hK154=>?_
     refine SX.cond_ true hR (by kernel_rfl) (fun h155=>?_) (fun h155=>nomatch h155)
     refine wp_skip ?_
     refine hK154 _ _ ?_
     refine wp_seq_k fun K156 hK156=>?_
     refine wp_block ?_
     refine wp_seq_k fun K157 hK157=>?_
     refine SX.region_l ?_
     refine SX.list_q0 (κ:=[]) 0 2 [.ld [],.ld []] [4,6,9,107,108,109,110,111] [(.e 4 (.P n5)),(.e 6 (.P n13)),(.e 9 (.I ((m:Nat):Int))),(.e 107 (.agg #[.I t.b0,.slice C3 t.args0.length l3,.I t.b1,.slice C4 t.args1.length l4])),(.e 108 (.I 0)),(.e 109 (.bool true)),(.e 110 (.I 0)),(.e 111 (.agg #[.I t.b0,.slice C3 t.args0.length l3]))] hR hM (by kernel_rfl) (by kernel_rfl) ?_
     clear hR hM; intro a158 w159 hR hb160 hM
     replace hB:=hB.tr hb160
     obtain ⟨n164,hn164⟩:∃ n,w159.heap.size=n:=⟨_,rfl⟩
     have hzn164:w.heap.size≤n164:=by have:=hB.size; omega
     refine SX.list_alloc 2 n164 [(.I 0),(.slice none 0 0)] 57 ((.e 12 (.P n164))::[(.e 4 (.P n5)),(.e 6 (.P n13)),(.e 9 (.I ((m:Nat):Int))),(.e 107 (.agg #[.I t.b0,.slice C3 t.args0.length l3,.I t.b1,.slice C4 t.args1.length l4])),(.e 108 (.I 0)),(.e 109 (.bool true)),(.e 110 (.I 0)),(.e 111 (.agg #[.I t.b0,.slice C3 t.args0.length l3]))]) hR hM hn164 (by kernel_rfl) ?_
     clear hR hM; intro a161 w162 hR hb163 hM hkn164 hln164 hnen164
     replace hB:=hB.tr hb163
     replace hR:SX.RSt 134 [] [(.e 4 (.P n5)),(.e 6 (.P n13)),(.e 9 (.I ((m:Nat):Int))),(.e 12 (.P n164)),(.e 107 (.agg #[.I t.b0,.slice C3 t.args0.length l3,.I t.b1,.slice C4 t.args1.length l4])),(.e 108 (.I 0)),(.e 109 (.bool true)),(.e 110 (.I 0)),(.e 111 (.agg #[.I t.b0,.slice C3 t.args0.length l3]))] a161:=hR.keep (ts:=[4,6,9,12,107,108,109,110,111]) (by kernel_rfl)
     refine SX.list_q0 (κ:=[]) 3 1 [.ld []] [4,6,9,11,12,107,108,109,110,111] [(.e 4 (.P n5)),(.e 6 (.P n13)),(.e 9 (.I ((m:Nat):Int))),(.e 11 (.I 0)),(.e 12 (.P n164)),(.e 107 (.agg #[.I t.b0,.slice C3 t.args0.length l3,.I t.b1,.slice C4 t.args1.length l4])),(.e 108 (.I 0)),(.e 109 (.bool true)),(.e 110 (.I 0)),(.e 111 (.agg #[.I t.b0,.slice C3 t.args0.length l3]))] hR hM (by kernel_rfl) (by kernel_rfl) ?_
     clear hR hM; intro a165 w166 hR hb167 hM
     replace hB:=hB.tr hb167
     replace hkn164:=SX.blk_below hkn164 hb167
     refine SX.list_store 4 [(0,(.I t.b0)),(1,(.slice C3 t.args0.length l3))] [(.I t.b0),(.slice C3 t.args0.length l3)] [(⟨n13,0,none⟩,(.I t.kind)),(⟨n13,1,none⟩,(.I t.a)),(⟨n13,2,none⟩,(.I t.n)),(⟨n13,3,none⟩,(.slice C2 t.args.length l2)),(⟨n13,4,none⟩,(.I t.b0)),(⟨n13,5,none⟩,(.slice C3 t.args0.length l3)),(⟨n13,6,none⟩,(.I t.b1)),(⟨n13,7,none⟩,(.slice C4 t.args1.length l4)),(⟨n9,0,none⟩,(.I ps)),(⟨n9,1,none⟩,(.map (some mb))),(⟨n5,0,none⟩,(.I c.params)),(⟨n5,1,none⟩,(.slice A1 c.blocks.length k1)),(⟨n5,2,none⟩,(.slice A2 c.contexts.length k2)),(⟨n5,3,none⟩,(.slice A3 c.objects.length k3))] [(⟨n164,0,none⟩,(.I t.b0)),(⟨n164,1,none⟩,(.slice C3 t.args0.length l3)),(⟨n13,0,none⟩,(.I t.kind)),(⟨n13,1,none⟩,(.I t.a)),(⟨n13,2,none⟩,(.I t.n)),(⟨n13,3,none⟩,(.slice C2 t.args.length l2)),(⟨n13,4,none⟩,(.I t.b0)),(⟨n13,5,none⟩,(.slice C3 t.args0.length l3)),(⟨n13,6,none⟩,(.I t.b1)),(⟨n13,7,none⟩,(.slice C4 t.args1.length l4)),(⟨n9,0,none⟩,(.I ps)),(⟨n9,1,none⟩,(.map (some mb))),(⟨n5,0,none⟩,(.I c.params)),(⟨n5,1,none⟩,(.slice A1 c.blocks.length k1)),(⟨n5,2,none⟩,(.slice A2 c.contexts.length k2)),(⟨n5,3,none⟩,(.slice A3 c.objects.length k3))] hR (SX.cells_sub hM [0,1,2,3,4,5,6,7,8,9,10,11,12,13] (by kernel_rfl)) hnen164 hkn164 (by kernel_rfl) (by kernel_rfl) (by kernel_rfl) ?_
     clear hR hM hkn164; intro a168 w169 hR hb170 hM hkn164
     replace hB:=hB.trans (hb170.below (by omega))
     refine SX.list_end 5 (by kernel_rfl) ?_
     refine hK157 _ _ ?_
     refine wp_seq_k fun K171 hK171=>?_
     refine SX.region_q [(3,decide (0<((m:Nat):Int))),(11,(decide (0<((m:Nat):Int))&&(!(P.rightEdge c t.b0 t.args0 t.kind)))),(15,decide (((m:Nat):Int)≤0))] [.ld [],.ld [],.ld [],.ld [],.ld [12,13,14,15],.ld [0,1],.ld [],.ld [2],.cl (.bool (P.rightEdge c t.b0 t.args0 t.kind)),.ld [],.pk,.ld [],.ld [],.ld [],.ld [],.ld [],.ld [0,1],.cl (.bool (P.absent t.b0 t.args0)),.ld [],.pk,.pk] [4,6,9,11,12,107,108,109,110,111,112,113,114,115,122,123,132] [(.e 4 (.P n5)),(.e 6 (.P n13)),(.e 9 (.I ((m:Nat):Int))),(.e 11 (.I 0)),(.e 12 (.P n164)),(.e 107 (.agg #[.I t.b0,.slice C3 t.args0.length l3,.I t.b1,.slice C4 t.args1.length l4])),(.e 108 (.I 0)),(.e 109 (.bool true)),(.e 110 (.I 0)),(.e 111 (.agg #[.I t.b0,.slice C3 t.args0.length l3])),(.e 112 (.I 0)),(.e 113 (.I ((m:Nat):Int))),(.e 114 (.bool (decide (0<((m:Nat):Int))))),(.e 115 (.bool (decide (0<((m:Nat):Int))))),(.e 122 (.bool (decide (0<((m:Nat):Int))&&(!(P.rightEdge c t.b0 t.args0 t.kind))))),(.e 123 (.bool (decide (0<((m:Nat):Int))&&(!(P.rightEdge c t.b0 t.args0 t.kind))))),(.e 132 (.bool ((decide (0<((m:Nat):Int))&&(!(P.rightEdge c t.b0 t.args0 t.kind)))||(decide (((m:Nat):Int)≤0)&&(!(P.absent t.b0 t.args0))))))] [] [] [([(3,true)],157,#[(.agg #[.I c.params,.slice A1 c.blocks.length k1,.slice A2 c.contexts.length k2,.slice A3 c.objects.length k3]),(.agg #[.I t.b0,.slice C3 t.args0.length l3]),(.I t.kind)],(.bool (P.rightEdge c t.b0 t.args0 t.kind))),([(15,true),(11,false)],156,#[(.agg #[.I t.b0,.slice C3 t.args0.length l3])],(.bool (P.absent t.b0 t.args0)))] [] hR hM mix (by kernel_rfl) (by kernel_rfl) (by kernel_rfl) (by kernel_rfl) trivial trivial (fun w' hb' hM'=>trivial) (fun w' hb' hM'=>⟨fun hg=>rightEdge_any c _ _ _ _ (h0.below (hB.tr hb')) _ _ _ _ (h3.below (hB.tr hb')),fun hg=>absent_any _ _ _ _ (h3.below (hB.tr hb')),trivial⟩) ?_
     clear hR hM; intro a172 w173 hR hb174 hM
     replace hB:=hB.tr hb174
     replace hkn164:=SX.blk_below hkn164 hb174
     refine hK171 _ _ ?_
     refine SX.cond_ ((decide (0<((m:Nat):Int))&&(!(P.rightEdge c t.b0 t.args0 t.kind)))||(decide (((m:Nat):Int)≤0)&&(!(P.absent t.b0 t.args0)))) hR (by kernel_rfl) (fun h175=>?_) (fun h175=>?_)
     ·skip
      refine wp_seq_k fun K176 hK176=>?_
      refine SX.region_q0 [.ld []] [4,6,8,9,11,12,107,108,109,110,111,112,113,114,115,122,123,132] [(.e 4 (.P n5)),(.e 6 (.P n13)),(.e 8 (.bool false)),(.e 9 (.I ((m:Nat):Int))),(.e 11 (.I 0)),(.e 12 (.P n164)),(.e 107 (.agg #[.I t.b0,.slice C3 t.args0.length l3,.I t.b1,.slice C4 t.args1.length l4])),(.e 108 (.I 0)),(.e 109 (.bool true)),(.e 110 (.I 0)),(.e 111 (.agg #[.I t.b0,.slice C3 t.args0.length l3])),(.e 112 (.I 0)),(.e 113 (.I ((m:Nat):Int))),(.e 114 (.bool (decide (0<((m:Nat):Int))))),(.e 115 (.bool (decide (0<((m:Nat):Int))))),(.e 122 (.bool (decide (0<((m:Nat):Int))&&(!(P.rightEdge c t.b0 t.args0 t.kind))))),(.e 123 (.bool (decide (0<((m:Nat):Int))&&(!(P.rightEdge c t.b0 t.args0 t.kind))))),(.e 132 (.bool ((decide (0<((m:Nat):Int))&&(!(P.rightEdge c t.b0 t.args0 t.kind)))||(decide (((m:Nat):Int)≤0)&&(!(P.absent t.b0 t.args0))))))] hR hM mix (by kernel_rfl) (by kernel_rfl) (by kernel_rfl) (by kernel_rfl) ?_
      clear hR hM; intro a177 w178 hR hb179 hM
      replace hB:=hB.tr hb179
      replace hkn164:=SX.blk_below hkn164 hb179
      refine hK176 _ _ ?_
      refine wp_ret ?_
      try simp only [Exit.then,Exit.inBlock,Nat.reduceEqDiff,↓reduceIte]
      refine SX.ret_ 8 (.bool false) Try.results130 hR (by kernel_rfl) ?_
      clear hR hM mix hK1 hzn5 hb4 hkn5 hln5 hn5 hzn9 qn5n9 hb8 hkn9 hln9 hn9 hzn13 qn5n13 qn9n13 hb12 hkn13 hln13 hn13 hb16 hK17 hK18 hb21 hK27 hb30 hK145 hK146 hb149 hK150 hb153 hK154 hK156 hK157 hb160 hzn164 hb163 hkn164 hln164 hn164 hnen164 hb167 hb170 hK171 hb174 hK176 hb179
      refine ⟨ret_bool ?_,hB⟩
      clear hB hp hD h h0 h2 h3 h4
      unfold rightTermH
      simp only [h22,Bool.false_eq_true,↓reduceIte]
      rw [hc4.1]
      simp only [hc17,Bool.false_eq_true,↓reduceIte]
      simp only [hc23,Bool.false_eq_true,↓reduceIte]
      simp only [lt0m,le0m,lt1m,le1m] at *
      have h5:=hc4.2
      clear hc4 hc17 hc23
      rcases (show m=0∨m=1∨m=2 by omega) with rfl | rfl | rfl <;> simp_all
     ·skip
      refine wp_skip ?_
      refine hK156 _ _ ?_
      refine SX.region_q0 [.ld [],.ld []] [4,6,9,11,12,107,108,109,110,111,112,113,114,115,122,123,132,133] [(.e 4 (.P n5)),(.e 6 (.P n13)),(.e 9 (.I ((m:Nat):Int))),(.e 11 (.I 0)),(.e 12 (.P n164)),(.e 107 (.agg #[.I t.b0,.slice C3 t.args0.length l3,.I t.b1,.slice C4 t.args1.length l4])),(.e 108 (.I 1)),(.e 109 (.bool true)),(.e 110 (.I 0)),(.e 111 (.agg #[.I t.b0,.slice C3 t.args0.length l3])),(.e 112 (.I 0)),(.e 113 (.I ((m:Nat):Int))),(.e 114 (.bool (decide (0<((m:Nat):Int))))),(.e 115 (.bool (decide (0<((m:Nat):Int))))),(.e 122 (.bool (decide (0<((m:Nat):Int))&&(!(P.rightEdge c t.b0 t.args0 t.kind))))),(.e 123 (.bool (decide (0<((m:Nat):Int))&&(!(P.rightEdge c t.b0 t.args0 t.kind))))),(.e 132 (.bool ((decide (0<((m:Nat):Int))&&(!(P.rightEdge c t.b0 t.args0 t.kind)))||(decide (((m:Nat):Int)≤0)&&(!(P.absent t.b0 t.args0)))))),(.e 133 (.I 1))] hR hM mix (by kernel_rfl) (by kernel_rfl) (by kernel_rfl) (by kernel_rfl) ?_
      clear hR hM; intro a180 w181 hR hb182 hM
      replace hB:=hB.tr hb182
      replace hkn164:=SX.blk_below hkn164 hb182
      show Code.rounds _ _ _ 2 _ _
      rw [rounds_succ]
      refine wp_seq_k fun K183 hK183=>?_
      refine SX.region_q0 [.ld []] [4,6,9,11,12,107,108,109,110,111,112,113,114,115,122,123,132,133] [(.e 4 (.P n5)),(.e 6 (.P n13)),(.e 9 (.I ((m:Nat):Int))),(.e 11 (.I 0)),(.e 12 (.P n164)),(.e 107 (.agg #[.I t.b0,.slice C3 t.args0.length l3,.I t.b1,.slice C4 t.args1.length l4])),(.e 108 (.I 1)),(.e 109 (.bool true)),(.e 110 (.I 0)),(.e 111 (.agg #[.I t.b0,.slice C3 t.args0.length l3])),(.e 112 (.I 0)),(.e 113 (.I ((m:Nat):Int))),(.e 114 (.bool (decide (0<((m:Nat):Int))))),(.e 115 (.bool (decide (0<((m:Nat):Int))))),(.e 122 (.bool (decide (0<((m:Nat):Int))&&(!(P.rightEdge c t.b0 t.args0 t.kind))))),(.e 123 (.bool (decide (0<((m:Nat):Int))&&(!(P.rightEdge c t.b0 t.args0 t.kind))))),(.e 132 (.bool ((decide (0<((m:Nat):Int))&&(!(P.rightEdge c t.b0 t.args0 t.kind)))||(decide (((m:Nat):Int)≤0)&&(!(P.absent t.b0 t.args0)))))),(.e 133 (.I 1))] hR hM mix (by kernel_rfl) (by kernel_rfl) (by kernel_rfl) (by kernel_rfl) ?_
      clear hR hM; intro a184 w185 hR hb186 hM
      replace hB:=hB.tr hb186
      replace hkn164:=SX.blk_below hkn164 hb186
      refine hK183 _ _ ?_
      refine wp_seq_k fun K187 hK187=>?_
      refine SX.cond_ true hR (by kernel_rfl) (fun h188=>?_) (fun h188=>nomatch h188)
      refine wp_skip ?_
      refine hK187 _ _ ?_
      refine wp_seq_k fun K189 hK189=>?_
      refine wp_block ?_
      refine wp_seq_k fun K190 hK190=>?_
      refine SX.region_l ?_
      refine SX.list_q0 (κ:=[]) 0 2 [.ld [],.ld []] [4,6,9,11,12,107,108,109,110,111,112,113,114,115,122,123,132,133] [(.e 4 (.P n5)),(.e 6 (.P n13)),(.e 9 (.I ((m:Nat):Int))),(.e 11 (.I 0)),(.e 12 (.P n164)),(.e 107 (.agg #[.I t.b0,.slice C3 t.args0.length l3,.I t.b1,.slice C4 t.args1.length l4])),(.e 108 (.I 1)),(.e 109 (.bool true)),(.e 110 (.I 1)),(.e 111 (.agg #[.I t.b1,.slice C4 t.args1.length l4])),(.e 112 (.I 0)),(.e 113 (.I ((m:Nat):Int))),(.e 114 (.bool (decide (0<((m:Nat):Int))))),(.e 115 (.bool (decide (0<((m:Nat):Int))))),(.e 122 (.bool (decide (0<((m:Nat):Int))&&(!(P.rightEdge c t.b0 t.args0 t.kind))))),(.e 123 (.bool (decide (0<((m:Nat):Int))&&(!(P.rightEdge c t.b0 t.args0 t.kind))))),(.e 132 (.bool ((decide (0<((m:Nat):Int))&&(!(P.rightEdge c t.b0 t.args0 t.kind)))||(decide (((m:Nat):Int)≤0)&&(!(P.absent t.b0 t.args0)))))),(.e 133 (.I 1))] hR hM (by kernel_rfl) (by kernel_rfl) ?_
      clear hR hM; intro a191 w192 hR hb193 hM
      replace hB:=hB.tr hb193
      replace hkn164:=SX.blk_below hkn164 hb193
      obtain ⟨n197,hn197⟩:∃ n,w192.heap.size=n:=⟨_,rfl⟩
      have hzn197:w.heap.size≤n197:=by have:=hB.size; omega
      have qn164n197:n164<n197:=by have:=(Array.getElem?_eq_some_iff.1 hkn164).1; omega
      refine SX.list_alloc 2 n197 [(.I 0),(.slice none 0 0)] 57 ((.e 12 (.P n197))::[(.e 4 (.P n5)),(.e 6 (.P n13)),(.e 9 (.I ((m:Nat):Int))),(.e 11 (.I 0)),(.e 12 (.P n164)),(.e 107 (.agg #[.I t.b0,.slice C3 t.args0.length l3,.I t.b1,.slice C4 t.args1.length l4])),(.e 108 (.I 1)),(.e 109 (.bool true)),(.e 110 (.I 1)),(.e 111 (.agg #[.I t.b1,.slice C4 t.args1.length l4])),(.e 112 (.I 0)),(.e 113 (.I ((m:Nat):Int))),(.e 114 (.bool (decide (0<((m:Nat):Int))))),(.e 115 (.bool (decide (0<((m:Nat):Int))))),(.e 122 (.bool (decide (0<((m:Nat):Int))&&(!(P.rightEdge c t.b0 t.args0 t.kind))))),(.e 123 (.bool (decide (0<((m:Nat):Int))&&(!(P.rightEdge c t.b0 t.args0 t.kind))))),(.e 132 (.bool ((decide (0<((m:Nat):Int))&&(!(P.rightEdge c t.b0 t.args0 t.kind)))||(decide (((m:Nat):Int)≤0)&&(!(P.absent t.b0 t.args0)))))),(.e 133 (.I 1))]) hR hM hn197 (by kernel_rfl) ?_
      clear hR hM; intro a194 w195 hR hb196 hM hkn197 hln197 hnen197
      replace hB:=hB.tr hb196
      replace hkn164:=SX.blk_below hkn164 hb196
      replace hR:SX.RSt 134 [] [(.e 4 (.P n5)),(.e 6 (.P n13)),(.e 9 (.I ((m:Nat):Int))),(.e 11 (.I 0)),(.e 12 (.P n197)),(.e 107 (.agg #[.I t.b0,.slice C3 t.args0.length l3,.I t.b1,.slice C4 t.args1.length l4])),(.e 108 (.I 1)),(.e 109 (.bool true)),(.e 110 (.I 1)),(.e 111 (.agg #[.I t.b1,.slice C4 t.args1.length l4])),(.e 112 (.I 0)),(.e 113 (.I ((m:Nat):Int))),(.e 114 (.bool (decide (0<((m:Nat):Int))))),(.e 115 (.bool (decide (0<((m:Nat):Int))))),(.e 122 (.bool (decide (0<((m:Nat):Int))&&(!(P.rightEdge c t.b0 t.args0 t.kind))))),(.e 123 (.bool (decide (0<((m:Nat):Int))&&(!(P.rightEdge c t.b0 t.args0 t.kind))))),(.e 132 (.bool ((decide (0<((m:Nat):Int))&&(!(P.rightEdge c t.b0 t.args0 t.kind)))||(decide (((m:Nat):Int)≤0)&&(!(P.absent t.b0 t.args0)))))),(.e 133 (.I 1))] a194:=hR.keep (ts:=[4,6,9,11,12,107,108,109,110,111,112,113,114,115,122,123,132,133]) (by kernel_rfl)
      refine SX.list_q0 (κ:=[]) 3 1 [.ld []] [4,6,9,11,12,107,108,109,110,111,112,113,114,115,122,123,132,133] [(.e 4 (.P n5)),(.e 6 (.P n13)),(.e 9 (.I ((m:Nat):Int))),(.e 11 (.I 1)),(.e 12 (.P n197)),(.e 107 (.agg #[.I t.b0,.slice C3 t.args0.length l3,.I t.b1,.slice C4 t.args1.length l4])),(.e 108 (.I 1)),(.e 109 (.bool true)),(.e 110 (.I 1)),(.e 111 (.agg #[.I t.b1,.slice C4 t.args1.length l4])),(.e 112 (.I 0)),(.e 113 (.I ((m:Nat):Int))),(.e 114 (.bool (decide (0<((m:Nat):Int))))),(.e 115 (.bool (decide (0<((m:Nat):Int))))),(.e 122 (.bool (decide (0<((m:Nat):Int))&&(!(P.rightEdge c t.b0 t.args0 t.kind))))),(.e 123 (.bool (decide (0<((m:Nat):Int))&&(!(P.rightEdge c t.b0 t.args0 t.kind))))),(.e 132 (.bool ((decide (0<((m:Nat):Int))&&(!(P.rightEdge c t.b0 t.args0 t.kind)))||(decide (((m:Nat):Int)≤0)&&(!(P.absent t.b0 t.args0)))))),(.e 133 (.I 1))] hR hM (by kernel_rfl) (by kernel_rfl) ?_
      clear hR hM; intro a198 w199 hR hb200 hM
      replace hB:=hB.tr hb200
      replace hkn164:=SX.blk_below hkn164 hb200
      replace hkn197:=SX.blk_below hkn197 hb200
      refine SX.list_store 4 [(0,(.I t.b1)),(1,(.slice C4 t.args1.length l4))] [(.I t.b1),(.slice C4 t.args1.length l4)] [(⟨n164,0,none⟩,(.I t.b0)),(⟨n164,1,none⟩,(.slice C3 t.args0.length l3)),(⟨n13,0,none⟩,(.I t.kind)),(⟨n13,1,none⟩,(.I t.a)),(⟨n13,2,none⟩,(.I t.n)),(⟨n13,3,none⟩,(.slice C2 t.args.length l2)),(⟨n13,4,none⟩,(.I t.b0)),(⟨n13,5,none⟩,(.slice C3 t.args0.length l3)),(⟨n13,6,none⟩,(.I t.b1)),(⟨n13,7,none⟩,(.slice C4 t.args1.length l4)),(⟨n9,0,none⟩,(.I ps)),(⟨n9,1,none⟩,(.map (some mb))),(⟨n5,0,none⟩,(.I c.params)),(⟨n5,1,none⟩,(.slice A1 c.blocks.length k1)),(⟨n5,2,none⟩,(.slice A2 c.contexts.length k2)),(⟨n5,3,none⟩,(.slice A3 c.objects.length k3))] [(⟨n197,0,none⟩,(.I t.b1)),(⟨n197,1,none⟩,(.slice C4 t.args1.length l4)),(⟨n164,0,none⟩,(.I t.b0)),(⟨n164,1,none⟩,(.slice C3 t.args0.length l3)),(⟨n13,0,none⟩,(.I t.kind)),(⟨n13,1,none⟩,(.I t.a)),(⟨n13,2,none⟩,(.I t.n)),(⟨n13,3,none⟩,(.slice C2 t.args.length l2)),(⟨n13,4,none⟩,(.I t.b0)),(⟨n13,5,none⟩,(.slice C3 t.args0.length l3)),(⟨n13,6,none⟩,(.I t.b1)),(⟨n13,7,none⟩,(.slice C4 t.args1.length l4)),(⟨n9,0,none⟩,(.I ps)),(⟨n9,1,none⟩,(.map (some mb))),(⟨n5,0,none⟩,(.I c.params)),(⟨n5,1,none⟩,(.slice A1 c.blocks.length k1)),(⟨n5,2,none⟩,(.slice A2 c.contexts.length k2)),(⟨n5,3,none⟩,(.slice A3 c.objects.length k3))] hR (SX.cells_sub hM [0,1,2,3,4,5,6,7,8,9,10,11,12,13,14,15] (by kernel_rfl)) hnen197 hkn197 (by kernel_rfl) (by kernel_rfl) (by kernel_rfl) ?_
      clear hR hM hkn197; intro a201 w202 hR hb203 hM hkn197
      replace hB:=hB.trans (hb203.below (by omega))
      replace hkn164:=(hb203.block _ (by omega)).trans hkn164
      refine SX.list_end 5 (by kernel_rfl) ?_
      refine hK190 _ _ ?_
      refine wp_seq_k fun K204 hK204=>?_
      refine SX.region_q [(3,decide (1<((m:Nat):Int))),(11,(decide (1<((m:Nat):Int))&&(!(P.rightEdge c t.b1 t.args1 t.kind)))),(15,decide (((m:Nat):Int)≤1))] [.ld [],.ld [],.ld [],.ld [],.ld [14,15,16,17],.ld [0,1],.ld [],.ld [4],.cl (.bool (P.rightEdge c t.b1 t.args1 t.kind)),.ld [],.pk,.ld [],.ld [],.ld [],.ld [],.ld [],.ld [0,1],.cl (.bool (P.absent t.b1 t.args1)),.ld [],.pk,.pk] [4,6,9,11,12,107,108,109,110,111,112,113,114,115,122,123,132,133] [(.e 4 (.P n5)),(.e 6 (.P n13)),(.e 9 (.I ((m:Nat):Int))),(.e 11 (.I 1)),(.e 12 (.P n197)),(.e 107 (.agg #[.I t.b0,.slice C3 t.args0.length l3,.I t.b1,.slice C4 t.args1.length l4])),(.e 108 (.I 1)),(.e 109 (.bool true)),(.e 110 (.I 1)),(.e 111 (.agg #[.I t.b1,.slice C4 t.args1.length l4])),(.e 112 (.I 1)),(.e 113 (.I ((m:Nat):Int))),(.e 114 (.bool (decide (1<((m:Nat):Int))))),(.e 115 (.bool (decide (1<((m:Nat):Int))))),(.e 122 (.bool (decide (1<((m:Nat):Int))&&(!(P.rightEdge c t.b1 t.args1 t.kind))))),(.e 123 (.bool (decide (1<((m:Nat):Int))&&(!(P.rightEdge c t.b1 t.args1 t.kind))))),(.e 132 (.bool ((decide (1<((m:Nat):Int))&&(!(P.rightEdge c t.b1 t.args1 t.kind)))||(decide (((m:Nat):Int)≤1)&&(!(P.absent t.b1 t.args1)))))),(.e 133 (.I 1))] [] [] [([(3,true)],157,#[(.agg #[.I c.params,.slice A1 c.blocks.length k1,.slice A2 c.contexts.length k2,.slice A3 c.objects.length k3]),(.agg #[.I t.b1,.slice C4 t.args1.length l4]),(.I t.kind)],(.bool (P.rightEdge c t.b1 t.args1 t.kind))),([(15,true),(11,false)],156,#[(.agg #[.I t.b1,.slice C4 t.args1.length l4])],(.bool (P.absent t.b1 t.args1)))] [] hR hM mix (by kernel_rfl) (by kernel_rfl) (by kernel_rfl) (by kernel_rfl) trivial trivial (fun w' hb' hM'=>trivial) (fun w' hb' hM'=>⟨fun hg=>rightEdge_any c _ _ _ _ (h0.below (hB.tr hb')) _ _ _ _ (h4.below (hB.tr hb')),fun hg=>absent_any _ _ _ _ (h4.below (hB.tr hb')),trivial⟩) ?_
      clear hR hM; intro a205 w206 hR hb207 hM
      replace hB:=hB.tr hb207
      replace hkn164:=SX.blk_below hkn164 hb207
      replace hkn197:=SX.blk_below hkn197 hb207
      refine hK204 _ _ ?_
      refine SX.cond_ ((decide (1<((m:Nat):Int))&&(!(P.rightEdge c t.b1 t.args1 t.kind)))||(decide (((m:Nat):Int)≤1)&&(!(P.absent t.b1 t.args1)))) hR (by kernel_rfl) (fun h208=>?_) (fun h208=>?_)
      ·skip
       refine wp_seq_k fun K209 hK209=>?_
       refine SX.region_q0 [.ld []] [4,6,8,9,11,12,107,108,109,110,111,112,113,114,115,122,123,132,133] [(.e 4 (.P n5)),(.e 6 (.P n13)),(.e 8 (.bool false)),(.e 9 (.I ((m:Nat):Int))),(.e 11 (.I 1)),(.e 12 (.P n197)),(.e 107 (.agg #[.I t.b0,.slice C3 t.args0.length l3,.I t.b1,.slice C4 t.args1.length l4])),(.e 108 (.I 1)),(.e 109 (.bool true)),(.e 110 (.I 1)),(.e 111 (.agg #[.I t.b1,.slice C4 t.args1.length l4])),(.e 112 (.I 1)),(.e 113 (.I ((m:Nat):Int))),(.e 114 (.bool (decide (1<((m:Nat):Int))))),(.e 115 (.bool (decide (1<((m:Nat):Int))))),(.e 122 (.bool (decide (1<((m:Nat):Int))&&(!(P.rightEdge c t.b1 t.args1 t.kind))))),(.e 123 (.bool (decide (1<((m:Nat):Int))&&(!(P.rightEdge c t.b1 t.args1 t.kind))))),(.e 132 (.bool ((decide (1<((m:Nat):Int))&&(!(P.rightEdge c t.b1 t.args1 t.kind)))||(decide (((m:Nat):Int)≤1)&&(!(P.absent t.b1 t.args1)))))),(.e 133 (.I 1))] hR hM mix (by kernel_rfl) (by kernel_rfl) (by kernel_rfl) (by kernel_rfl) ?_
       clear hR hM; intro a210 w211 hR hb212 hM
       replace hB:=hB.tr hb212
       replace hkn164:=SX.blk_below hkn164 hb212
       replace hkn197:=SX.blk_below hkn197 hb212
       refine hK209 _ _ ?_
       refine wp_ret ?_
       try simp only [Exit.then,Exit.inBlock,Nat.reduceEqDiff,↓reduceIte]
       refine SX.ret_ 8 (.bool false) Try.results130 hR (by kernel_rfl) ?_
       clear hR hM mix hK1 hzn5 hb4 hkn5 hln5 hn5 hzn9 qn5n9 hb8 hkn9 hln9 hn9 hzn13 qn5n13 qn9n13 hb12 hkn13 hln13 hn13 hb16 hK17 hK18 hb21 hK27 hb30 hK145 hK146 hb149 hK150 hb153 hK154 hK156 hK157 hb160 hzn164 hb163 hkn164 hln164 hn164 hnen164 hb167 hb170 hK171 hb174 hb182 hK183 hb186 hK187 hK189 hK190 hb193 hzn197 qn164n197 hb196 hkn197 hln197 hn197 hnen197 hb200 hb203 hK204 hb207 hK209 hb212
       refine ⟨ret_bool ?_,hB⟩
       clear hB hp hD h h0 h2 h3 h4
       unfold rightTermH
       simp only [h22,Bool.false_eq_true,↓reduceIte]
       rw [hc4.1]
       simp only [hc17,Bool.false_eq_true,↓reduceIte]
       simp only [hc23,Bool.false_eq_true,↓reduceIte]
       simp only [lt0m,le0m,lt1m,le1m] at *
       have h5:=hc4.2
       clear hc4 hc17 hc23
       rcases (show m=0∨m=1∨m=2 by omega) with rfl | rfl | rfl <;> simp_all
      ·skip
       refine wp_skip ?_
       refine hK189 _ _ ?_
       refine SX.region_q0 [.ld [],.ld []] [4,6,9,11,12,107,108,109,110,111,112,113,114,115,122,123,132,133] [(.e 4 (.P n5)),(.e 6 (.P n13)),(.e 9 (.I ((m:Nat):Int))),(.e 11 (.I 1)),(.e 12 (.P n197)),(.e 107 (.agg #[.I t.b0,.slice C3 t.args0.length l3,.I t.b1,.slice C4 t.args1.length l4])),(.e 108 (.I 2)),(.e 109 (.bool true)),(.e 110 (.I 1)),(.e 111 (.agg #[.I t.b1,.slice C4 t.args1.length l4])),(.e 112 (.I 1)),(.e 113 (.I ((m:Nat):Int))),(.e 114 (.bool (decide (1<((m:Nat):Int))))),(.e 115 (.bool (decide (1<((m:Nat):Int))))),(.e 122 (.bool (decide (1<((m:Nat):Int))&&(!(P.rightEdge c t.b1 t.args1 t.kind))))),(.e 123 (.bool (decide (1<((m:Nat):Int))&&(!(P.rightEdge c t.b1 t.args1 t.kind))))),(.e 132 (.bool ((decide (1<((m:Nat):Int))&&(!(P.rightEdge c t.b1 t.args1 t.kind)))||(decide (((m:Nat):Int)≤1)&&(!(P.absent t.b1 t.args1)))))),(.e 133 (.I 2))] hR hM mix (by kernel_rfl) (by kernel_rfl) (by kernel_rfl) (by kernel_rfl) ?_
       clear hR hM; intro a213 w214 hR hb215 hM
       replace hB:=hB.tr hb215
       replace hkn164:=SX.blk_below hkn164 hb215
       replace hkn197:=SX.blk_below hkn197 hb215
       show Code.rounds _ _ _ 1 _ _
       rw [rounds_succ]
       refine wp_seq_k fun K216 hK216=>?_
       refine SX.region_q0 [.ld []] [4,6,9,11,12,107,108,109,110,111,112,113,114,115,122,123,132,133] [(.e 4 (.P n5)),(.e 6 (.P n13)),(.e 9 (.I ((m:Nat):Int))),(.e 11 (.I 1)),(.e 12 (.P n197)),(.e 107 (.agg #[.I t.b0,.slice C3 t.args0.length l3,.I t.b1,.slice C4 t.args1.length l4])),(.e 108 (.I 2)),(.e 109 (.bool false)),(.e 110 (.I 1)),(.e 111 (.agg #[.I t.b1,.slice C4 t.args1.length l4])),(.e 112 (.I 1)),(.e 113 (.I ((m:Nat):Int))),(.e 114 (.bool (decide (1<((m:Nat):Int))))),(.e 115 (.bool (decide (1<((m:Nat):Int))))),(.e 122 (.bool (decide (1<((m:Nat):Int))&&(!(P.rightEdge c t.b1 t.args1 t.kind))))),(.e 123 (.bool (decide (1<((m:Nat):Int))&&(!(P.rightEdge c t.b1 t.args1 t.kind))))),(.e 132 (.bool ((decide (1<((m:Nat):Int))&&(!(P.rightEdge c t.b1 t.args1 t.kind)))||(decide (((m:Nat):Int)≤1)&&(!(P.absent t.b1 t.args1)))))),(.e 133 (.I 2))] hR hM mix (by kernel_rfl) (by kernel_rfl) (by kernel_rfl) (by kernel_rfl) ?_
       clear hR hM; intro a217 w218 hR hb219 hM
       replace hB:=hB.tr hb219
       replace hkn164:=SX.blk_below hkn164 hb219
       replace hkn197:=SX.blk_below hkn197 hb219
       refine hK216 _ _ ?_
       refine wp_seq_k fun K220 hK220=>?_
       refine SX.cond_ false hR (by kernel_rfl) (fun h221=>nomatch h221) (fun h221=>?_)
       refine wp_exit ?_
       refine hK145 _ _ ?_
       refine wp_seq_k fun K222 hK222=>?_
       refine SX.region_q0 [.ld []] [4,6,8,9,11,12,107,108,109,110,111,112,113,114,115,122,123,132,133] [(.e 4 (.P n5)),(.e 6 (.P n13)),(.e 8 (.bool true)),(.e 9 (.I ((m:Nat):Int))),(.e 11 (.I 1)),(.e 12 (.P n197)),(.e 107 (.agg #[.I t.b0,.slice C3 t.args0.length l3,.I t.b1,.slice C4 t.args1.length l4])),(.e 108 (.I 2)),(.e 109 (.bool false)),(.e 110 (.I 1)),(.e 111 (.agg #[.I t.b1,.slice C4 t.args1.length l4])),(.e 112 (.I 1)),(.e 113 (.I ((m:Nat):Int))),(.e 114 (.bool (decide (1<((m:Nat):Int))))),(.e 115 (.bool (decide (1<((m:Nat):Int))))),(.e 122 (.bool (decide (1<((m:Nat):Int))&&(!(P.rightEdge c t.b1 t.args1 t.kind))))),(.e 123 (.bool (decide (1<((m:Nat):Int))&&(!(P.rightEdge c t.b1 t.args1 t.kind))))),(.e 132 (.bool ((decide (1<((m:Nat):Int))&&(!(P.rightEdge c t.b1 t.args1 t.kind)))||(decide (((m:Nat):Int)≤1)&&(!(P.absent t.b1 t.args1)))))),(.e 133 (.I 2))] hR hM mix (by kernel_rfl) (by kernel_rfl) (by kernel_rfl) (by kernel_rfl) ?_
       clear hR hM; intro a223 w224 hR hb225 hM
       replace hB:=hB.tr hb225
       replace hkn164:=SX.blk_below hkn164 hb225
       replace hkn197:=SX.blk_below hkn197 hb225
       refine hK222 _ _ ?_
       refine wp_ret ?_
       try simp only [Exit.then,Exit.inBlock,Nat.reduceEqDiff,↓reduceIte]
       refine SX.ret_ 8 (.bool true) Try.results130 hR (by kernel_rfl) ?_
       clear hR hM mix hK1 hzn5 hb4 hkn5 hln5 hn5 hzn9 qn5n9 hb8 hkn9 hln9 hn9 hzn13 qn5n13 qn9n13 hb12 hkn13 hln13 hn13 hb16 hK17 hK18 hb21 hK27 hb30 hK145 hK146 hb149 hK150 hb153 hK154 hK156 hK157 hb160 hzn164 hb163 hkn164 hln164 hn164 hnen164 hb167 hb170 hK171 hb174 hb182 hK183 hb186 hK187 hK189 hK190 hb193 hzn197 qn164n197 hb196 hkn197 hln197 hn197 hnen197 hb200 hb203 hK204 hb207 hb215 hK216 hb219 hK220 hK222 hb225
       refine ⟨ret_bool ?_,hB⟩
       clear hB hp hD h h0 h2 h3 h4
       unfold rightTermH
       simp only [h22,Bool.false_eq_true,↓reduceIte]
       rw [hc4.1]
       simp only [hc17,Bool.false_eq_true,↓reduceIte]
       simp only [hc23,Bool.false_eq_true,↓reduceIte]
       simp only [lt0m,le0m,lt1m,le1m] at *
       have h5:=hc4.2
       clear hc4 hc17 hc23
       rcases (show m=0∨m=1∨m=2 by omega) with rfl | rfl | rfl <;> simp_all
end Go.Proofs.Ytlkcidmmpeebeaa
