/- Proved: rightTerm -/
import Derived.Test.YtlkcidmmpeebeaaObj
set_option linter.unusedVariables false
set_option linter.unusedSimpArgs false
namespace Go.Proofs.Ytlkcidmmpeebeaa
open Go.RowKit
set_option maxRecDepth 100000
def rightTermH (c:CodeD) (H:Int→Bool) (t:TermD):Bool :=
 if !t.args.all H||!t.args0.all H||!t.args1.all H then false else
 match P.edges t with
 | none=>false
 | some e =>
  if (if t.kind==2||t.kind==4||t.kind==5 then !H t.a else t.a != 0) then false else
  if (if t.kind==3||t.kind==6 then !P.within t.n 7||decide (4<t.args.length) else t.n != 0||t.args.length != 0) then false else
  !((decide (0<e)&&!P.rightEdge c t.b0 t.args0 t.kind)||(decide (e≤0)&&!P.absent t.b0 t.args0))&&!((decide (1<e)&&!P.rightEdge c t.b1 t.args1 t.kind)||(decide (e≤1)&&!P.absent t.b1 t.args1))
theorem lt4 (n:Nat):decide ((4:Int)<(n:Int))=decide (4<n):=by rw [Bool.eq_iff_iff]; simp; omega
theorem lt0m (m:Nat):decide ((0:Int)<(m:Int))=decide (0<m):=by rw [Bool.eq_iff_iff]; simp
theorem le0m (m:Nat):decide ((m:Int)≤0)=decide (m≤0):=by rw [Bool.eq_iff_iff]; simp only [decide_eq_true_eq]; omega
theorem lt1m (m:Nat):decide ((1:Int)<(m:Int))=decide (1<m):=by rw [Bool.eq_iff_iff]; simp only [decide_eq_true_eq]; omega
theorem le1m (m:Nat):decide ((m:Int)≤1)=decide (m≤1):=by rw [Bool.eq_iff_iff]; simp only [decide_eq_true_eq]; omega
theorem ne0 (n:Nat):((n:Int) != 0)=(n != 0):=by rw [Bool.eq_iff_iff]; simp

set_option maxHeartbeats 4000000 in
theorem rightTerm_any (c:CodeD) (v1 v2 v3:Value) (w:World) (h:CodeAt w v1 v2 v3 c) (t:TermD) (u2 u3 u4:Value) (h2:IntsAt w u2 t.args) (h3:IntsAt w u3 t.args0) (h4:IntsAt w u4 t.args1) (n:Int) (ps:Int) (mb:Nat) (D:List (Int × Int)) (hp:0≤ps∧ps≤999) (hD:MapI w mb D):Calls Try.prog 130 #[(.agg #[.I c.params,v1,v2,v3]),(.agg #[.I ps,.map (some mb)]),.agg #[.I t.kind,.I t.a,.I t.n,u2,.I t.b0,u3,.I t.b1,u4],.I n] w fun e w'=>e=.returned (.bool (rightTermH c (fun x=>hasD ps D x n) t))∧Below w.heap.size w w':=by
 have h0:=h
 obtain ⟨A1,k1,rfl,s1⟩:=h.2.1.shape
 obtain ⟨A2,k2,rfl,s2⟩:=h.2.2.1.shape
 obtain ⟨A3,k3,rfl,s3⟩:=h.2.2.2.shape
 unfold Shape at s1 s2 s3
 obtain ⟨C2,l2,rfl,q2⟩:=h2.shape
 obtain ⟨C3,l3,rfl,q3⟩:=h3.shape
 obtain ⟨C4,l4,rfl,q4⟩:=h4.shape
 clear q2 q3 q4 s1 s2 s3
 have mix:=mixed
 have hB:Below w.heap.size w w:=Below.refl _ _
 have hM:SX.Cells w []:=SX.cells_nil
 refine SX.enter [(.agg #[.I c.params,.slice A1 c.blocks.length k1,.slice A2 c.contexts.length k2,.slice A3 c.objects.length k3]),(.agg #[.I ps,.map (some mb)]),(.agg #[.I t.kind,.I t.a,.I t.n,.slice C2 t.args.length l2,.I t.b0,.slice C3 t.args0.length l3,.I t.b1,.slice C4 t.args1.length l4]),(.I n)] 134 Try.func130 rfl rfl (by kernel_rfl) ?_
 intro a hR
 refine wp_seq_k fun K1 hK1=>?_
 refine SX.region_l ?_
 obtain ⟨n5,hn5⟩:∃ n,w.heap.size=n:=⟨_,rfl⟩
 have hzn5:w.heap.size≤n5:=by have:=hB.size; omega
 refine SX.list_box 0 n5 [(.I c.params),(.slice A1 c.blocks.length k1),(.slice A2 c.contexts.length k2),(.slice A3 c.objects.length k3)] 26 ((.e 4 (.P n5))::[(.e 0 (.agg #[.I c.params,.slice A1 c.blocks.length k1,.slice A2 c.contexts.length k2,.slice A3 c.objects.length k3])),(.e 1 (.agg #[.I ps,.map (some mb)])),(.e 2 (.agg #[.I t.kind,.I t.a,.I t.n,.slice C2 t.args.length l2,.I t.b0,.slice C3 t.args0.length l3,.I t.b1,.slice C4 t.args1.length l4])),(.e 3 (.I n))]) [(⟨n5,0,none⟩,(.I c.params)),(⟨n5,1,none⟩,(.slice A1 c.blocks.length k1)),(⟨n5,2,none⟩,(.slice A2 c.contexts.length k2)),(⟨n5,3,none⟩,(.slice A3 c.objects.length k3))] hR hM hn5 (by kernel_rfl) (by kernel_rfl) ?_
 clear hR hM; intro a2 w3 hR hb4 hM hkn5 hln5
 replace hB:=hB.tr hb4
 replace hR:SX.RSt 134 [] [(.e 1 (.agg #[.I ps,.map (some mb)])),(.e 2 (.agg #[.I t.kind,.I t.a,.I t.n,.slice C2 t.args.length l2,.I t.b0,.slice C3 t.args0.length l3,.I t.b1,.slice C4 t.args1.length l4])),(.e 3 (.I n)),(.e 4 (.P n5))] a2:=hR.keep (ts:=[1,2,3,4]) (by kernel_rfl)
 obtain ⟨n9,hn9⟩:∃ n,w3.heap.size=n:=⟨_,rfl⟩
 have hzn9:w.heap.size≤n9:=by have:=hB.size; omega
 have qn5n9:n5<n9:=by have:=(Array.getElem?_eq_some_iff.1 hkn5).1; omega
 refine SX.list_box 1 n9 [(.I ps),(.map (some mb))] 183 ((.e 5 (.P n9))::[(.e 1 (.agg #[.I ps,.map (some mb)])),(.e 2 (.agg #[.I t.kind,.I t.a,.I t.n,.slice C2 t.args.length l2,.I t.b0,.slice C3 t.args0.length l3,.I t.b1,.slice C4 t.args1.length l4])),(.e 3 (.I n)),(.e 4 (.P n5))]) [(⟨n9,0,none⟩,(.I ps)),(⟨n9,1,none⟩,(.map (some mb))),(⟨n5,0,none⟩,(.I c.params)),(⟨n5,1,none⟩,(.slice A1 c.blocks.length k1)),(⟨n5,2,none⟩,(.slice A2 c.contexts.length k2)),(⟨n5,3,none⟩,(.slice A3 c.objects.length k3))] hR hM hn9 (by kernel_rfl) (by kernel_rfl) ?_
 clear hR hM; intro a6 w7 hR hb8 hM hkn9 hln9
 replace hB:=hB.tr hb8
 replace hkn5:=SX.blk_below hkn5 hb8
 replace hR:SX.RSt 134 [] [(.e 2 (.agg #[.I t.kind,.I t.a,.I t.n,.slice C2 t.args.length l2,.I t.b0,.slice C3 t.args0.length l3,.I t.b1,.slice C4 t.args1.length l4])),(.e 3 (.I n)),(.e 4 (.P n5)),(.e 5 (.P n9))] a6:=hR.keep (ts:=[2,3,4,5]) (by kernel_rfl)
 obtain ⟨n13,hn13⟩:∃ n,w7.heap.size=n:=⟨_,rfl⟩
 have hzn13:w.heap.size≤n13:=by have:=hB.size; omega
 have qn5n13:n5<n13:=by have:=(Array.getElem?_eq_some_iff.1 hkn5).1; omega
 have qn9n13:n9<n13:=by have:=(Array.getElem?_eq_some_iff.1 hkn9).1; omega
 refine SX.list_box 2 n13 [(.I t.kind),(.I t.a),(.I t.n),(.slice C2 t.args.length l2),(.I t.b0),(.slice C3 t.args0.length l3),(.I t.b1),(.slice C4 t.args1.length l4)] 60 ((.e 6 (.P n13))::[(.e 2 (.agg #[.I t.kind,.I t.a,.I t.n,.slice C2 t.args.length l2,.I t.b0,.slice C3 t.args0.length l3,.I t.b1,.slice C4 t.args1.length l4])),(.e 3 (.I n)),(.e 4 (.P n5)),(.e 5 (.P n9))]) [(⟨n13,0,none⟩,(.I t.kind)),(⟨n13,1,none⟩,(.I t.a)),(⟨n13,2,none⟩,(.I t.n)),(⟨n13,3,none⟩,(.slice C2 t.args.length l2)),(⟨n13,4,none⟩,(.I t.b0)),(⟨n13,5,none⟩,(.slice C3 t.args0.length l3)),(⟨n13,6,none⟩,(.I t.b1)),(⟨n13,7,none⟩,(.slice C4 t.args1.length l4)),(⟨n9,0,none⟩,(.I ps)),(⟨n9,1,none⟩,(.map (some mb))),(⟨n5,0,none⟩,(.I c.params)),(⟨n5,1,none⟩,(.slice A1 c.blocks.length k1)),(⟨n5,2,none⟩,(.slice A2 c.contexts.length k2)),(⟨n5,3,none⟩,(.slice A3 c.objects.length k3))] hR hM hn13 (by kernel_rfl) (by kernel_rfl) ?_
 clear hR hM; intro a10 w11 hR hb12 hM hkn13 hln13
 replace hB:=hB.tr hb12
 replace hkn5:=SX.blk_below hkn5 hb12
 replace hkn9:=SX.blk_below hkn9 hb12
 replace hR:SX.RSt 134 [] [(.e 3 (.I n)),(.e 4 (.P n5)),(.e 5 (.P n9)),(.e 6 (.P n13))] a10:=hR.keep (ts:=[3,4,5,6]) (by kernel_rfl)
 refine SX.list_q0 (κ:=[]) 3 1 [.ld []] [3,4,5,6] [(.e 3 (.I n)),(.e 4 (.P n5)),(.e 5 (.P n9)),(.e 6 (.P n13))] hR hM (by kernel_rfl) (by kernel_rfl) ?_
 clear hR hM; intro a14 w15 hR hb16 hM
 replace hB:=hB.tr hb16
 replace hkn5:=SX.blk_below hkn5 hb16
 replace hkn9:=SX.blk_below hkn9 hb16
 replace hkn13:=SX.blk_below hkn13 hb16
 refine SX.list_end 4 (by kernel_rfl) ?_
 refine hK1 _ _ ?_
 refine wp_seq_k fun K17 hK17=>?_
 refine SX.qf [(6,(!(t.args.all (fun x=>hasD ps D x n)))),(16,((!(t.args.all (fun x=>hasD ps D x n)))||(!(t.args0.all (fun x=>hasD ps D x n)))))] [.ld [8,9],.ld [],.ld [],.ld [3],.cl (.bool (t.args.all (fun x=>hasD ps D x n))),.ld [],.ld [],.ld [8,9],.ld [],.ld [],.ld [],.ld [],.ld [5],.cl (.bool (t.args0.all (fun x=>hasD ps D x n))),.ld [],.pk,.ld [],.ld [8,9],.ld [],.ld [],.ld [],.ld [],.ld [7],.cl (.bool (t.args1.all (fun x=>hasD ps D x n))),.ld [],.pk] [3,4,5,6,38] [(.e 38 (.bool (((!(t.args.all (fun x=>hasD ps D x n)))||(!(t.args0.all (fun x=>hasD ps D x n))))||(!(t.args1.all (fun x=>hasD ps D x n))))))] [] [] [([],155,#[(.agg #[.I ps,.map (some mb)]),(.I n),(.slice C2 t.args.length l2)],(.bool (t.args.all (fun x=>hasD ps D x n)))),([(6,false)],155,#[(.agg #[.I ps,.map (some mb)]),(.I n),(.slice C3 t.args0.length l3)],(.bool (t.args0.all (fun x=>hasD ps D x n)))),([(16,false)],155,#[(.agg #[.I ps,.map (some mb)]),(.I n),(.slice C4 t.args1.length l4)],(.bool (t.args1.all (fun x=>hasD ps D x n))))] [] hR hM hB mix trivial trivial (fun w' hb' hM'=>trivial) (fun w' hb' hM'=>⟨fun hg=>scAll_any _ _ _ _ (h2.below (hB.tr hb')) _ _ _ hp (hD.below (hB.tr hb')),fun hg=>scAll_any _ _ _ _ (h3.below (hB.tr hb')) _ _ _ hp (hD.below (hB.tr hb')),fun hg=>scAll_any _ _ _ _ (h4.below (hB.tr hb')) _ _ _ hp (hD.below (hB.tr hb')),trivial⟩) fun a18 w19 hR hb20 hB hM=>?_
 replace hkn5:=SX.blk_below hkn5 hb20
 replace hkn9:=SX.blk_below hkn9 hb20
 replace hkn13:=SX.blk_below hkn13 hb20
 refine SX.cond_ (((!(t.args.all (fun x=>hasD ps D x n)))||(!(t.args0.all (fun x=>hasD ps D x n))))||(!(t.args1.all (fun x=>hasD ps D x n)))) hR (by kernel_rfl) (fun h21=>?_) (fun h21=>?_)
 ·skip
  refine SX.qs [.ld []] [8] [(.e 8 (.bool false))] hR hM hB mix fun a22 w23 hR hb24 hB hM=>?_
  replace hkn5:=SX.blk_below hkn5 hb24
  replace hkn9:=SX.blk_below hkn9 hb24
  replace hkn13:=SX.blk_below hkn13 hb24
  refine wp_ret ?_
  try simp only [Exit.then,Exit.inBlock,Nat.reduceEqDiff,↓reduceIte]
  refine SX.ret_ 8 (.bool false) Try.results130 hR (by kernel_rfl) ?_
  clear hR hM mix hK1 hzn5 hb4 hkn5 hln5 hn5 hzn9 qn5n9 hb8 hkn9 hln9 hn9 hzn13 qn5n13 qn9n13 hb12 hkn13 hln13 hn13 hb16 hK17 hb20 hb24
  refine ⟨ret_bool ?_,hB⟩
  clear hB hp hD h h0 h2 h3 h4
  unfold rightTermH
  simp only [h21,↓reduceIte]
 ·skip
  refine wp_skip ?_
  refine hK17 _ _ ?_
  refine SX.qs [.ld []] [3,4,5,6,9] [(.e 9 (.I 0))] hR hM hB mix fun a25 w26 hR hb27 hB hM=>?_
  replace hkn5:=SX.blk_below hkn5 hb27
  replace hkn9:=SX.blk_below hkn9 hb27
  replace hkn13:=SX.blk_below hkn13 hb27
  refine SX.seq_cut (fun a' w'=>∃ m:Nat,SX.RSt 134 [] [(.e 3 (.I n)),(.e 4 (.P n5)),(.e 5 (.P n9)),(.e 6 (.P n13)),(.e 9 (.I (m:Int)))] a'∧Below w.heap.size w w'∧SX.Cells w' [(⟨n13,0,none⟩,(.I t.kind)),(⟨n13,1,none⟩,(.I t.a)),(⟨n13,2,none⟩,(.I t.n)),(⟨n13,3,none⟩,(.slice C2 t.args.length l2)),(⟨n13,4,none⟩,(.I t.b0)),(⟨n13,5,none⟩,(.slice C3 t.args0.length l3)),(⟨n13,6,none⟩,(.I t.b1)),(⟨n13,7,none⟩,(.slice C4 t.args1.length l4)),(⟨n9,0,none⟩,(.I ps)),(⟨n9,1,none⟩,(.map (some mb))),(⟨n5,0,none⟩,(.I c.params)),(⟨n5,1,none⟩,(.slice A1 c.blocks.length k1)),(⟨n5,2,none⟩,(.slice A2 c.contexts.length k2)),(⟨n5,3,none⟩,(.slice A3 c.objects.length k3))]∧(P.edges t=some m∧m≤2)) ?_ ?_
  ·skip
   refine SX.qs [.ld [],.ld [0]] [3,4,5,6,9,40] [(.e 40 (.I t.kind))] hR hM hB mix fun a28 w29 hR hb30 hB hM=>?_
   replace hkn5:=SX.blk_below hkn5 hb30
   replace hkn9:=SX.blk_below hkn9 hb30
   replace hkn13:=SX.blk_below hkn13 hb30
   refine wp_block ?_
   refine SX.qs [.ld [],.ld []] [3,4,5,6,9,40,41] [(.e 41 (.bool (t.kind==1)))] hR hM hB mix fun a31 w32 hR hb33 hB hM=>?_
   replace hkn5:=SX.blk_below hkn5 hb33
   replace hkn9:=SX.blk_below hkn9 hb33
   replace hkn13:=SX.blk_below hkn13 hb33
   refine SX.cond_ (t.kind==1) hR (by kernel_rfl) (fun h34=>?_) (fun h34=>?_)
   ·skip
    refine SX.qs0 [.ld []] [3,4,5,6,9] [(.e 9 (.I 1))] hR hM hB mix fun a35 w36 hR hb37 hB hM=>?_
    replace hkn5:=SX.blk_below hkn5 hb37
    replace hkn9:=SX.blk_below hkn9 hb37
    replace hkn13:=SX.blk_below hkn13 hb37
    exact ⟨1,hR.keep (ts:=[3,4,5,6,9]) (by kernel_rfl),hB,SX.cells_sub hM [0,1,2,3,4,5,6,7,8,9,10,11,12,13] (by kernel_rfl),⟨by unfold P.edges; simp [show t.kind=1 from by simpa using h34],by omega⟩⟩
   ·skip
    refine SX.qs [.ld [],.ld []] [3,4,5,6,9,40,43] [(.e 43 (.bool (t.kind==2)))] hR hM hB mix fun a38 w39 hR hb40 hB hM=>?_
    replace hkn5:=SX.blk_below hkn5 hb40
    replace hkn9:=SX.blk_below hkn9 hb40
    replace hkn13:=SX.blk_below hkn13 hb40
    refine SX.cond_ (t.kind==2) hR (by kernel_rfl) (fun h41=>?_) (fun h41=>?_)
    ·skip
     refine SX.qs0 [.ld []] [3,4,5,6,9] [(.e 9 (.I 2))] hR hM hB mix fun a42 w43 hR hb44 hB hM=>?_
     replace hkn5:=SX.blk_below hkn5 hb44
     replace hkn9:=SX.blk_below hkn9 hb44
     replace hkn13:=SX.blk_below hkn13 hb44
     exact ⟨2,hR.keep (ts:=[3,4,5,6,9]) (by kernel_rfl),hB,SX.cells_sub hM [0,1,2,3,4,5,6,7,8,9,10,11,12,13] (by kernel_rfl),⟨by unfold P.edges; simp [show t.kind=2 from by simpa using h41],by omega⟩⟩
    ·skip
     refine SX.qs [.ld [],.ld []] [3,4,5,6,9,40,45] [(.e 45 (.bool (t.kind==3)))] hR hM hB mix fun a45 w46 hR hb47 hB hM=>?_
     replace hkn5:=SX.blk_below hkn5 hb47
     replace hkn9:=SX.blk_below hkn9 hb47
     replace hkn13:=SX.blk_below hkn13 hb47
     refine SX.cond_ (t.kind==3) hR (by kernel_rfl) (fun h48=>?_) (fun h48=>?_)
     ·skip
      refine SX.qs [.ld []] [3,4,5,6,9] [(.e 9 (.I 1))] hR hM hB mix fun a49 w50 hR hb51 hB hM=>?_
      replace hkn5:=SX.blk_below hkn5 hb51
      replace hkn9:=SX.blk_below hkn9 hb51
      replace hkn13:=SX.blk_below hkn13 hb51
      refine SX.qf [] [.ld [],.ld [],.ld [6,7],.cl (.bool (P.absent t.b1 t.args1)),.ld []] [3,4,5,6,9,51] [(.e 51 (.bool (!(P.absent t.b1 t.args1))))] [] [] [([],156,#[(.agg #[.I t.b1,.slice C4 t.args1.length l4])],(.bool (P.absent t.b1 t.args1)))] [] hR hM hB mix trivial trivial (fun w' hb' hM'=>trivial) (fun w' hb' hM'=>⟨fun hg=>absent_any _ _ _ _ (h4.below (hB.tr hb')),trivial⟩) fun a52 w53 hR hb54 hB hM=>?_
      replace hkn5:=SX.blk_below hkn5 hb54
      replace hkn9:=SX.blk_below hkn9 hb54
      replace hkn13:=SX.blk_below hkn13 hb54
      refine SX.cond_ (!(P.absent t.b1 t.args1)) hR (by kernel_rfl) (fun h55=>?_) (fun h55=>?_)
      ·skip
       refine SX.qs0 [.ld []] [3,4,5,6,9] [(.e 9 (.I 2))] hR hM hB mix fun a56 w57 hR hb58 hB hM=>?_
       replace hkn5:=SX.blk_below hkn5 hb58
       replace hkn9:=SX.blk_below hkn9 hb58
       replace hkn13:=SX.blk_below hkn13 hb58
       exact ⟨2,hR.keep (ts:=[3,4,5,6,9]) (by kernel_rfl),hB,SX.cells_sub hM [0,1,2,3,4,5,6,7,8,9,10,11,12,13] (by kernel_rfl),⟨by unfold P.edges; simp [show t.kind=3 from by simpa using h48,show _ from h55],by omega⟩⟩
      ·skip
       refine wp_skip ?_
       exact ⟨1,hR.keep (ts:=[3,4,5,6,9]) (by kernel_rfl),hB,SX.cells_sub hM [0,1,2,3,4,5,6,7,8,9,10,11,12,13] (by kernel_rfl),⟨by unfold P.edges; simp [show t.kind=3 from by simpa using h48,show _ from h55],by omega⟩⟩
     ·skip
      refine wp_seq_k fun K59 hK59=>?_
      refine SX.qs [.ld [],.ld []] [3,4,5,6,9,40,52] [(.e 52 (.bool (t.kind==4)))] hR hM hB mix fun a60 w61 hR hb62 hB hM=>?_
      replace hkn5:=SX.blk_below hkn5 hb62
      replace hkn9:=SX.blk_below hkn9 hb62
      replace hkn13:=SX.blk_below hkn13 hb62
      refine SX.cond_ (t.kind==4) hR (by kernel_rfl) (fun h63=>?_) (fun h63=>?_)
      ·skip
       refine wp_skip ?_
       refine hK59 _ _ ?_
       refine SX.cond_ (t.kind==4) hR (by kernel_rfl) (fun h64=>?_) (fun h64=>nomatch (h63.symm.trans h64))
       refine wp_skip ?_
       exact ⟨0,hR.keep (ts:=[3,4,5,6,9]) (by kernel_rfl),hB,SX.cells_sub hM [0,1,2,3,4,5,6,7,8,9,10,11,12,13] (by kernel_rfl),⟨by unfold P.edges; simp [show t.kind=4 from by simpa using h63],by omega⟩⟩
      ·skip
       refine SX.qs [.ld [],.ld []] [3,4,5,6,9,40,52] [(.e 52 (.bool (t.kind==5)))] hR hM hB mix fun a65 w66 hR hb67 hB hM=>?_
       replace hkn5:=SX.blk_below hkn5 hb67
       replace hkn9:=SX.blk_below hkn9 hb67
       replace hkn13:=SX.blk_below hkn13 hb67
       refine SX.cond_ (t.kind==5) hR (by kernel_rfl) (fun h68=>?_) (fun h68=>?_)
       ·skip
        refine wp_skip ?_
        refine hK59 _ _ ?_
        refine SX.cond_ (t.kind==5) hR (by kernel_rfl) (fun h69=>?_) (fun h69=>nomatch (h68.symm.trans h69))
        refine wp_skip ?_
        exact ⟨0,hR.keep (ts:=[3,4,5,6,9]) (by kernel_rfl),hB,SX.cells_sub hM [0,1,2,3,4,5,6,7,8,9,10,11,12,13] (by kernel_rfl),⟨by unfold P.edges; simp [show t.kind=5 from by simpa using h68],by omega⟩⟩
       ·skip
        refine SX.qs0 [.ld [],.ld []] [3,4,5,6,9,52] [(.e 52 (.bool (t.kind==6)))] hR hM hB mix fun a70 w71 hR hb72 hB hM=>?_
        replace hkn5:=SX.blk_below hkn5 hb72
        replace hkn9:=SX.blk_below hkn9 hb72
        replace hkn13:=SX.blk_below hkn13 hb72
        refine hK59 _ _ ?_
        refine SX.cond_ (t.kind==6) hR (by kernel_rfl) (fun h73=>?_) (fun h73=>?_)
        ·skip
         refine wp_skip ?_
         exact ⟨0,hR.keep (ts:=[3,4,5,6,9]) (by kernel_rfl),hB,SX.cells_sub hM [0,1,2,3,4,5,6,7,8,9,10,11,12,13] (by kernel_rfl),⟨by unfold P.edges; simp [show t.kind=6 from by simpa using h73],by omega⟩⟩
        ·skip
         refine SX.qs [.ld []] [3,4,5,6,8,9] [(.e 8 (.bool false))] hR hM hB mix fun a74 w75 hR hb76 hB hM=>?_
         replace hkn5:=SX.blk_below hkn5 hb76
         replace hkn9:=SX.blk_below hkn9 hb76
         replace hkn13:=SX.blk_below hkn13 hb76
         refine wp_ret ?_
         try simp only [Exit.then,Exit.inBlock,Nat.reduceEqDiff,↓reduceIte]
         refine SX.ret_ 8 (.bool false) Try.results130 hR (by kernel_rfl) ?_
         clear hR hM mix hK1 hzn5 hb4 hkn5 hln5 hn5 hzn9 qn5n9 hb8 hkn9 hln9 hn9 hzn13 qn5n13 qn9n13 hb12 hkn13 hln13 hn13 hb16 hK17 hb20 hb27 hb30 hb33 hb40 hb47 hK59 hb62 hb67 hb72 hb76
         refine ⟨ret_bool ?_,hB⟩
         clear hB hp hD h h0 h2 h3 h4
         unfold rightTermH
         simp only [h21,Bool.false_eq_true,↓reduceIte]
         unfold P.edges
         simp_all
  ·skip
   clear hR hM hB
   rintro a77 w78 ⟨m,hR,hB,hM,hc4⟩
   refine SX.seq_cut (fun a' w'=>SX.RSt 134 [] [(.e 4 (.P n5)),(.e 6 (.P n13)),(.e 9 (.I (m:Int)))] a'∧Below w.heap.size w w'∧SX.Cells w' [(⟨n13,0,none⟩,(.I t.kind)),(⟨n13,1,none⟩,(.I t.a)),(⟨n13,2,none⟩,(.I t.n)),(⟨n13,3,none⟩,(.slice C2 t.args.length l2)),(⟨n13,4,none⟩,(.I t.b0)),(⟨n13,5,none⟩,(.slice C3 t.args0.length l3)),(⟨n13,6,none⟩,(.I t.b1)),(⟨n13,7,none⟩,(.slice C4 t.args1.length l4)),(⟨n9,0,none⟩,(.I ps)),(⟨n9,1,none⟩,(.map (some mb))),(⟨n5,0,none⟩,(.I c.params)),(⟨n5,1,none⟩,(.slice A1 c.blocks.length k1)),(⟨n5,2,none⟩,(.slice A2 c.contexts.length k2)),(⟨n5,3,none⟩,(.slice A3 c.objects.length k3))]∧(if t.kind==2||t.kind==4||t.kind==5 then !hasD ps D t.a n else t.a != 0)=false) ?_ ?_
   ·skip
    refine SX.qf [(3,(t.kind==2)),(8,((t.kind==2)||(t.kind==4)))] [.ld [],.ld [0],.ld [],.ld [],.ld [],.ld [0],.ld [],.pk,.ld [],.ld [],.ld [0],.ld [],.pk,.ld []] [3,4,5,6,9,10] [(.e 10 (.bool (((t.kind==2)||(t.kind==4))||(t.kind==5))))] [] [] [] [] hR hM hB mix trivial trivial (fun w' hb' hM'=>trivial) (fun w' hb' hM'=>trivial) fun a79 w80 hR hb81 hB hM=>?_
    refine SX.qs [.ld []] [3,4,5,6,9,69] [(.e 69 (.bool (((t.kind==2)||(t.kind==4))||(t.kind==5))))] hR hM hB mix fun a82 w83 hR hb84 hB hM=>?_
    refine SX.cond_ (((t.kind==2)||(t.kind==4))||(t.kind==5)) hR (by kernel_rfl) (fun h85=>?_) (fun h85=>?_)
    ·skip
     refine SX.qf [] [.ld [8,9],.ld [],.ld [1],.ld [],.cl (.bool (hasD ps D t.a n)),.ld []] [4,6,9,75] [(.e 75 (.bool (!(hasD ps D t.a n))))] [] [] [([],154,#[(.agg #[.I ps,.map (some mb)]),(.I t.a),(.I n)],(.bool (hasD ps D t.a n)))] [] hR hM hB mix trivial trivial (fun w' hb' hM'=>trivial) (fun w' hb' hM'=>⟨fun hg=>sc_has _ _ _ _ _ _ hp (hD.below (hB.tr hb')),trivial⟩) fun a86 w87 hR hb88 hB hM=>?_
     refine SX.cond_ (!(hasD ps D t.a n)) hR (by kernel_rfl) (fun h89=>?_) (fun h89=>?_)
     ·skip
      refine SX.qs [.ld []] [4,6,8,9] [(.e 8 (.bool false))] hR hM hB mix fun a90 w91 hR hb92 hB hM=>?_
      refine wp_ret ?_
      try simp only [Exit.then,Exit.inBlock,Nat.reduceEqDiff,↓reduceIte]
      refine SX.ret_ 8 (.bool false) Try.results130 hR (by kernel_rfl) ?_
      clear hR hM mix hK1 hzn5 hb4 hkn5 hln5 hn5 hzn9 qn5n9 hb8 hkn9 hln9 hn9 hzn13 qn5n13 qn9n13 hb12 hkn13 hln13 hn13 hb16 hK17 hb20 hb27 hb81 hb84 hb88 hb92
      refine ⟨ret_bool ?_,hB⟩
      clear hB hp hD h h0 h2 h3 h4
      unfold rightTermH
      simp only [h21,Bool.false_eq_true,↓reduceIte]
      rw [hc4.1]
      simp_all
     ·skip
      refine wp_skip ?_
      exact ⟨hR.keep (ts:=[4,6,9]) (by kernel_rfl),hB,SX.cells_sub hM [0,1,2,3,4,5,6,7,8,9,10,11,12,13] (by kernel_rfl),by (try simp only [lt4,ne0] at *); simp only [h85,Bool.false_eq_true,↓reduceIte]; exact h89⟩
    ·skip
     refine SX.qs [.ld [],.ld [1],.ld []] [4,6,9,78] [(.e 78 (.bool (t.a != 0)))] hR hM hB mix fun a93 w94 hR hb95 hB hM=>?_
     refine SX.cond_ (t.a != 0) hR (by kernel_rfl) (fun h96=>?_) (fun h96=>?_)
     ·skip
      refine SX.qs [.ld []] [4,6,8,9] [(.e 8 (.bool false))] hR hM hB mix fun a97 w98 hR hb99 hB hM=>?_
      refine wp_ret ?_
      try simp only [Exit.then,Exit.inBlock,Nat.reduceEqDiff,↓reduceIte]
      refine SX.ret_ 8 (.bool false) Try.results130 hR (by kernel_rfl) ?_
      clear hR hM mix hK1 hzn5 hb4 hkn5 hln5 hn5 hzn9 qn5n9 hb8 hkn9 hln9 hn9 hzn13 qn5n13 qn9n13 hb12 hkn13 hln13 hn13 hb16 hK17 hb20 hb27 hb81 hb84 hb95 hb99
      refine ⟨ret_bool ?_,hB⟩
      clear hB hp hD h h0 h2 h3 h4
      unfold rightTermH
      simp only [h21,Bool.false_eq_true,↓reduceIte]
      rw [hc4.1]
      simp_all
     ·skip
      refine wp_skip ?_
      exact ⟨hR.keep (ts:=[4,6,9]) (by kernel_rfl),hB,SX.cells_sub hM [0,1,2,3,4,5,6,7,8,9,10,11,12,13] (by kernel_rfl),by (try simp only [lt4,ne0] at *); simp only [h85,Bool.false_eq_true,↓reduceIte]; exact h96⟩
   ·skip
    clear hR hM hB
    rintro a100 w101 ⟨hR,hB,hM,hc17⟩
    refine SX.seq_cut (fun a' w'=>SX.RSt 134 [] [(.e 4 (.P n5)),(.e 6 (.P n13)),(.e 9 (.I (m:Int)))] a'∧Below w.heap.size w w'∧SX.Cells w' [(⟨n13,0,none⟩,(.I t.kind)),(⟨n13,1,none⟩,(.I t.a)),(⟨n13,2,none⟩,(.I t.n)),(⟨n13,3,none⟩,(.slice C2 t.args.length l2)),(⟨n13,4,none⟩,(.I t.b0)),(⟨n13,5,none⟩,(.slice C3 t.args0.length l3)),(⟨n13,6,none⟩,(.I t.b1)),(⟨n13,7,none⟩,(.slice C4 t.args1.length l4)),(⟨n9,0,none⟩,(.I ps)),(⟨n9,1,none⟩,(.map (some mb))),(⟨n5,0,none⟩,(.I c.params)),(⟨n5,1,none⟩,(.slice A1 c.blocks.length k1)),(⟨n5,2,none⟩,(.slice A2 c.contexts.length k2)),(⟨n5,3,none⟩,(.slice A3 c.objects.length k3))]∧(if t.kind==3||t.kind==6 then !P.within t.n 7||decide (4<t.args.length) else t.n != 0||t.args.length != 0)=false) ?_ ?_
    ·skip
     refine SX.qf [(3,(t.kind==3))] [.ld [],.ld [0],.ld [],.ld [],.ld [],.ld [0],.ld [],.pk] [4,6,9,86] [(.e 86 (.bool ((t.kind==3)||(t.kind==6))))] [] [] [] [] hR hM hB mix trivial trivial (fun w' hb' hM'=>trivial) (fun w' hb' hM'=>trivial) fun a102 w103 hR hb104 hB hM=>?_
     refine SX.cond_ ((t.kind==3)||(t.kind==6)) hR (by kernel_rfl) (fun h105=>?_) (fun h105=>?_)
     ·skip
      refine SX.qf [(4,(!(P.within t.n 7)))] [.ld [],.ld [2],.cl (.bool (P.within t.n 7)),.ld [],.ld [],.ld [],.ld [3],.ld [],.ld [],.pk] [4,6,9,96] [(.e 96 (.bool ((!(P.within t.n 7))||decide (4<(t.args.length:Int)))))] [] [] [([],84,#[(.I t.n),(.I 7)],(.bool (P.within t.n 7)))] [] hR hM hB mix trivial trivial (fun w' hb' hM'=>trivial) (fun w' hb' hM'=>⟨fun hg=>SX.pureC (within_any _ _ _),trivial⟩) fun a106 w107 hR hb108 hB hM=>?_
      refine SX.cond_ ((!(P.within t.n 7))||decide (4<(t.args.length:Int))) hR (by kernel_rfl) (fun h109=>?_) (fun h109=>?_)
      ·skip
       refine SX.qs [.ld []] [4,6,8,9] [(.e 8 (.bool false))] hR hM hB mix fun a110 w111 hR hb112 hB hM=>?_
       refine wp_ret ?_
       try simp only [Exit.then,Exit.inBlock,Nat.reduceEqDiff,↓reduceIte]
       refine SX.ret_ 8 (.bool false) Try.results130 hR (by kernel_rfl) ?_
       clear hR hM mix hK1 hzn5 hb4 hkn5 hln5 hn5 hzn9 qn5n9 hb8 hkn9 hln9 hn9 hzn13 qn5n13 qn9n13 hb12 hkn13 hln13 hn13 hb16 hK17 hb20 hb27 hb104 hb108 hb112
       refine ⟨ret_bool ?_,hB⟩
       clear hB hp hD h h0 h2 h3 h4
       unfold rightTermH
       simp only [h21,Bool.false_eq_true,↓reduceIte]
       rw [hc4.1]
       simp only [hc17,Bool.false_eq_true,↓reduceIte]
       simp only [lt4,ne0] at *
       simp_all
      ·skip
       refine wp_skip ?_
       exact ⟨hR.keep (ts:=[4,6,9]) (by kernel_rfl),hB,SX.cells_sub hM [0,1,2,3,4,5,6,7,8,9,10,11,12,13] (by kernel_rfl),by (try simp only [lt4,ne0] at *); simp only [h105,Bool.false_eq_true,↓reduceIte]; exact h109⟩
     ·skip
      refine SX.qf [(3,(t.n != 0))] [.ld [],.ld [2],.ld [],.ld [],.ld [],.ld [3],.ld [],.ld [],.pk] [4,6,9,105] [(.e 105 (.bool ((t.n != 0)||((t.args.length:Int) != 0))))] [] [] [] [] hR hM hB mix trivial trivial (fun w' hb' hM'=>trivial) (fun w' hb' hM'=>trivial) fun a113 w114 hR hb115 hB hM=>?_
      refine SX.cond_ ((t.n != 0)||((t.args.length:Int) != 0)) hR (by kernel_rfl) (fun h116=>?_) (fun h116=>?_)
      ·skip
       refine SX.qs [.ld []] [4,6,8,9] [(.e 8 (.bool false))] hR hM hB mix fun a117 w118 hR hb119 hB hM=>?_
       refine wp_ret ?_
       try simp only [Exit.then,Exit.inBlock,Nat.reduceEqDiff,↓reduceIte]
       refine SX.ret_ 8 (.bool false) Try.results130 hR (by kernel_rfl) ?_
       clear hR hM mix hK1 hzn5 hb4 hkn5 hln5 hn5 hzn9 qn5n9 hb8 hkn9 hln9 hn9 hzn13 qn5n13 qn9n13 hb12 hkn13 hln13 hn13 hb16 hK17 hb20 hb27 hb104 hb115 hb119
       refine ⟨ret_bool ?_,hB⟩
       clear hB hp hD h h0 h2 h3 h4
       unfold rightTermH
       simp only [h21,Bool.false_eq_true,↓reduceIte]
       rw [hc4.1]
       simp only [hc17,Bool.false_eq_true,↓reduceIte]
       simp only [lt4,ne0] at *
       simp_all
      ·skip
       refine wp_skip ?_
       exact ⟨hR.keep (ts:=[4,6,9]) (by kernel_rfl),hB,SX.cells_sub hM [0,1,2,3,4,5,6,7,8,9,10,11,12,13] (by kernel_rfl),by (try simp only [lt4,ne0] at *); simp only [h105,Bool.false_eq_true,↓reduceIte]; exact h116⟩
    ·skip
     clear hR hM hB
     rintro a120 w121 ⟨hR,hB,hM,hc23⟩
     refine wp_seq_k fun K122 hK122=>?_
     refine SX.qs [.ld [],.ld [4,5,6,7],.ld []] [4,6,9,107,108] [(.e 107 (.agg #[.I t.b0,.slice C3 t.args0.length l3,.I t.b1,.slice C4 t.args1.length l4])),(.e 108 (.I 0))] hR hM hB mix fun a123 w124 hR hb125 hB hM=>?_
     refine wp_block ?_
     refine wp_loop_rounds 3 ?_
     rw [rounds_succ]
     refine SX.qs [.ld []] [4,6,9,107,108,109] [(.e 109 (.bool true))] hR hM hB mix fun a126 w127 hR hb128 hB hM=>?_
     refine wp_seq_k fun K129 hK129=>?_
     refine SX.cond_ true hR (by kernel_rfl) (fun h130=>?_) (fun h130=>nomatch h130)
     refine wp_skip ?_
     refine hK129 _ _ ?_
     refine wp_seq_k fun K131 hK131=>?_
     refine wp_block ?_
     refine wp_seq_k fun K132 hK132=>?_
     refine SX.region_l ?_
     refine SX.list_q0 (κ:=[]) 0 2 [.ld [],.ld []] [4,6,9,107,108,109,110,111] [(.e 4 (.P n5)),(.e 6 (.P n13)),(.e 9 (.I (m:Int))),(.e 107 (.agg #[.I t.b0,.slice C3 t.args0.length l3,.I t.b1,.slice C4 t.args1.length l4])),(.e 108 (.I 0)),(.e 109 (.bool true)),(.e 110 (.I 0)),(.e 111 (.agg #[.I t.b0,.slice C3 t.args0.length l3]))] hR hM (by kernel_rfl) (by kernel_rfl) ?_
     clear hR hM; intro a133 w134 hR hb135 hM
     replace hB:=hB.tr hb135
     obtain ⟨n139,hn139⟩:∃ n,w134.heap.size=n:=⟨_,rfl⟩
     have hzn139:w.heap.size≤n139:=by have:=hB.size; omega
     refine SX.list_alloc 2 n139 [(.I 0),(.slice none 0 0)] 57 ((.e 12 (.P n139))::[(.e 4 (.P n5)),(.e 6 (.P n13)),(.e 9 (.I (m:Int))),(.e 107 (.agg #[.I t.b0,.slice C3 t.args0.length l3,.I t.b1,.slice C4 t.args1.length l4])),(.e 108 (.I 0)),(.e 109 (.bool true)),(.e 110 (.I 0)),(.e 111 (.agg #[.I t.b0,.slice C3 t.args0.length l3]))]) hR hM hn139 (by kernel_rfl) ?_
     clear hR hM; intro a136 w137 hR hb138 hM hkn139 hln139 hnen139
     replace hB:=hB.tr hb138
     replace hR:SX.RSt 134 [] [(.e 4 (.P n5)),(.e 6 (.P n13)),(.e 9 (.I (m:Int))),(.e 12 (.P n139)),(.e 107 (.agg #[.I t.b0,.slice C3 t.args0.length l3,.I t.b1,.slice C4 t.args1.length l4])),(.e 108 (.I 0)),(.e 109 (.bool true)),(.e 110 (.I 0)),(.e 111 (.agg #[.I t.b0,.slice C3 t.args0.length l3]))] a136:=hR.keep (ts:=[4,6,9,12,107,108,109,110,111]) (by kernel_rfl)
     refine SX.list_q0 (κ:=[]) 3 1 [.ld []] [4,6,9,11,12,107,108,109,110,111] [(.e 4 (.P n5)),(.e 6 (.P n13)),(.e 9 (.I (m:Int))),(.e 11 (.I 0)),(.e 12 (.P n139)),(.e 107 (.agg #[.I t.b0,.slice C3 t.args0.length l3,.I t.b1,.slice C4 t.args1.length l4])),(.e 108 (.I 0)),(.e 109 (.bool true)),(.e 110 (.I 0)),(.e 111 (.agg #[.I t.b0,.slice C3 t.args0.length l3]))] hR hM (by kernel_rfl) (by kernel_rfl) ?_
     clear hR hM; intro a140 w141 hR hb142 hM
     replace hB:=hB.tr hb142
     replace hkn139:=SX.blk_below hkn139 hb142
     refine SX.list_store 4 [(0,(.I t.b0)),(1,(.slice C3 t.args0.length l3))] [(.I t.b0),(.slice C3 t.args0.length l3)] [(⟨n13,0,none⟩,(.I t.kind)),(⟨n13,1,none⟩,(.I t.a)),(⟨n13,2,none⟩,(.I t.n)),(⟨n13,3,none⟩,(.slice C2 t.args.length l2)),(⟨n13,4,none⟩,(.I t.b0)),(⟨n13,5,none⟩,(.slice C3 t.args0.length l3)),(⟨n13,6,none⟩,(.I t.b1)),(⟨n13,7,none⟩,(.slice C4 t.args1.length l4)),(⟨n9,0,none⟩,(.I ps)),(⟨n9,1,none⟩,(.map (some mb))),(⟨n5,0,none⟩,(.I c.params)),(⟨n5,1,none⟩,(.slice A1 c.blocks.length k1)),(⟨n5,2,none⟩,(.slice A2 c.contexts.length k2)),(⟨n5,3,none⟩,(.slice A3 c.objects.length k3))] [(⟨n139,0,none⟩,(.I t.b0)),(⟨n139,1,none⟩,(.slice C3 t.args0.length l3)),(⟨n13,0,none⟩,(.I t.kind)),(⟨n13,1,none⟩,(.I t.a)),(⟨n13,2,none⟩,(.I t.n)),(⟨n13,3,none⟩,(.slice C2 t.args.length l2)),(⟨n13,4,none⟩,(.I t.b0)),(⟨n13,5,none⟩,(.slice C3 t.args0.length l3)),(⟨n13,6,none⟩,(.I t.b1)),(⟨n13,7,none⟩,(.slice C4 t.args1.length l4)),(⟨n9,0,none⟩,(.I ps)),(⟨n9,1,none⟩,(.map (some mb))),(⟨n5,0,none⟩,(.I c.params)),(⟨n5,1,none⟩,(.slice A1 c.blocks.length k1)),(⟨n5,2,none⟩,(.slice A2 c.contexts.length k2)),(⟨n5,3,none⟩,(.slice A3 c.objects.length k3))] hR (SX.cells_sub hM [0,1,2,3,4,5,6,7,8,9,10,11,12,13] (by kernel_rfl)) hnen139 hkn139 (by kernel_rfl) (by kernel_rfl) (by kernel_rfl) ?_
     clear hR hM hkn139; intro a143 w144 hR hb145 hM hkn139
     replace hB:=hB.trans (hb145.below (by omega))
     refine SX.list_end 5 (by kernel_rfl) ?_
     refine hK132 _ _ ?_
     refine SX.qf [(3,decide (0<(m:Int))),(11,(decide (0<(m:Int))&&(!(P.rightEdge c t.b0 t.args0 t.kind)))),(15,decide ((m:Int)≤0))] [.ld [],.ld [],.ld [],.ld [],.ld [12,13,14,15],.ld [0,1],.ld [],.ld [2],.cl (.bool (P.rightEdge c t.b0 t.args0 t.kind)),.ld [],.pk,.ld [],.ld [],.ld [],.ld [],.ld [],.ld [0,1],.cl (.bool (P.absent t.b0 t.args0)),.ld [],.pk,.pk] [4,6,9,11,12,107,108,109,110,111,112,113,114,115,122,123,132] [(.e 112 (.I 0)),(.e 113 (.I (m:Int))),(.e 114 (.bool (decide (0<(m:Int))))),(.e 115 (.bool (decide (0<(m:Int))))),(.e 122 (.bool (decide (0<(m:Int))&&(!(P.rightEdge c t.b0 t.args0 t.kind))))),(.e 123 (.bool (decide (0<(m:Int))&&(!(P.rightEdge c t.b0 t.args0 t.kind))))),(.e 132 (.bool ((decide (0<(m:Int))&&(!(P.rightEdge c t.b0 t.args0 t.kind)))||(decide ((m:Int)≤0)&&(!(P.absent t.b0 t.args0))))))] [] [] [([(3,true)],157,#[(.agg #[.I c.params,.slice A1 c.blocks.length k1,.slice A2 c.contexts.length k2,.slice A3 c.objects.length k3]),(.agg #[.I t.b0,.slice C3 t.args0.length l3]),(.I t.kind)],(.bool (P.rightEdge c t.b0 t.args0 t.kind))),([(15,true),(11,false)],156,#[(.agg #[.I t.b0,.slice C3 t.args0.length l3])],(.bool (P.absent t.b0 t.args0)))] [] hR hM hB mix trivial trivial (fun w' hb' hM'=>trivial) (fun w' hb' hM'=>⟨fun hg=>rightEdge_any c _ _ _ _ (h0.below (hB.tr hb')) _ _ _ _ (h3.below (hB.tr hb')),fun hg=>absent_any _ _ _ _ (h3.below (hB.tr hb')),trivial⟩) fun a146 w147 hR hb148 hB hM=>?_
     replace hkn139:=SX.blk_below hkn139 hb148
     refine SX.cond_ ((decide (0<(m:Int))&&(!(P.rightEdge c t.b0 t.args0 t.kind)))||(decide ((m:Int)≤0)&&(!(P.absent t.b0 t.args0)))) hR (by kernel_rfl) (fun h149=>?_) (fun h149=>?_)
     ·skip
      refine SX.qs [.ld []] [4,6,8,9,11,12,107,108,109,110,111,112,113,114,115,122,123,132] [(.e 8 (.bool false))] hR hM hB mix fun a150 w151 hR hb152 hB hM=>?_
      replace hkn139:=SX.blk_below hkn139 hb152
      refine wp_ret ?_
      try simp only [Exit.then,Exit.inBlock,Nat.reduceEqDiff,↓reduceIte]
      refine SX.ret_ 8 (.bool false) Try.results130 hR (by kernel_rfl) ?_
      clear hR hM mix hK1 hzn5 hb4 hkn5 hln5 hn5 hzn9 qn5n9 hb8 hkn9 hln9 hn9 hzn13 qn5n13 qn9n13 hb12 hkn13 hln13 hn13 hb16 hK17 hb20 hb27 hK122 hb125 hb128 hK129 hK131 hK132 hb135 hzn139 hb138 hkn139 hln139 hn139 hnen139 hb142 hb145 hb148 hb152
      refine ⟨ret_bool ?_,hB⟩
      clear hB hp hD h h0 h2 h3 h4
      unfold rightTermH
      simp only [h21,Bool.false_eq_true,↓reduceIte]
      rw [hc4.1]
      simp only [hc17,Bool.false_eq_true,↓reduceIte]
      simp only [hc23,Bool.false_eq_true,↓reduceIte]
      simp only [lt0m,le0m,lt1m,le1m] at *
      have h5:=hc4.2
      clear hc4 hc17 hc23
      rcases (show m=0∨m=1∨m=2 by omega) with rfl | rfl | rfl <;> simp_all
     ·skip
      refine wp_skip ?_
      refine hK131 _ _ ?_
      refine SX.qs0 [.ld [],.ld []] [4,6,9,11,12,107,108,109,110,111,112,113,114,115,122,123,132,133] [(.e 108 (.I 1)),(.e 133 (.I 1))] hR hM hB mix fun a153 w154 hR hb155 hB hM=>?_
      replace hkn139:=SX.blk_below hkn139 hb155
      show Code.rounds _ _ _ 2 _ _
      rw [rounds_succ]
      refine SX.qs [.ld []] [4,6,9,11,12,107,108,109,110,111,112,113,114,115,122,123,132,133] [(.e 109 (.bool true))] hR hM hB mix fun a156 w157 hR hb158 hB hM=>?_
      replace hkn139:=SX.blk_below hkn139 hb158
      refine wp_seq_k fun K159 hK159=>?_
      refine SX.cond_ true hR (by kernel_rfl) (fun h160=>?_) (fun h160=>nomatch h160)
      refine wp_skip ?_
      refine hK159 _ _ ?_
      refine wp_seq_k fun K161 hK161=>?_
      refine wp_block ?_
      refine wp_seq_k fun K162 hK162=>?_
      refine SX.region_l ?_
      refine SX.list_q0 (κ:=[]) 0 2 [.ld [],.ld []] [4,6,9,11,12,107,108,109,110,111,112,113,114,115,122,123,132,133] [(.e 4 (.P n5)),(.e 6 (.P n13)),(.e 9 (.I (m:Int))),(.e 11 (.I 0)),(.e 12 (.P n139)),(.e 107 (.agg #[.I t.b0,.slice C3 t.args0.length l3,.I t.b1,.slice C4 t.args1.length l4])),(.e 108 (.I 1)),(.e 109 (.bool true)),(.e 110 (.I 1)),(.e 111 (.agg #[.I t.b1,.slice C4 t.args1.length l4])),(.e 112 (.I 0)),(.e 113 (.I (m:Int))),(.e 114 (.bool (decide (0<(m:Int))))),(.e 115 (.bool (decide (0<(m:Int))))),(.e 122 (.bool (decide (0<(m:Int))&&(!(P.rightEdge c t.b0 t.args0 t.kind))))),(.e 123 (.bool (decide (0<(m:Int))&&(!(P.rightEdge c t.b0 t.args0 t.kind))))),(.e 132 (.bool ((decide (0<(m:Int))&&(!(P.rightEdge c t.b0 t.args0 t.kind)))||(decide ((m:Int)≤0)&&(!(P.absent t.b0 t.args0)))))),(.e 133 (.I 1))] hR hM (by kernel_rfl) (by kernel_rfl) ?_
      clear hR hM; intro a163 w164 hR hb165 hM
      replace hB:=hB.tr hb165
      replace hkn139:=SX.blk_below hkn139 hb165
      obtain ⟨n169,hn169⟩:∃ n,w164.heap.size=n:=⟨_,rfl⟩
      have hzn169:w.heap.size≤n169:=by have:=hB.size; omega
      have qn139n169:n139<n169:=by have:=(Array.getElem?_eq_some_iff.1 hkn139).1; omega
      refine SX.list_alloc 2 n169 [(.I 0),(.slice none 0 0)] 57 ((.e 12 (.P n169))::[(.e 4 (.P n5)),(.e 6 (.P n13)),(.e 9 (.I (m:Int))),(.e 11 (.I 0)),(.e 12 (.P n139)),(.e 107 (.agg #[.I t.b0,.slice C3 t.args0.length l3,.I t.b1,.slice C4 t.args1.length l4])),(.e 108 (.I 1)),(.e 109 (.bool true)),(.e 110 (.I 1)),(.e 111 (.agg #[.I t.b1,.slice C4 t.args1.length l4])),(.e 112 (.I 0)),(.e 113 (.I (m:Int))),(.e 114 (.bool (decide (0<(m:Int))))),(.e 115 (.bool (decide (0<(m:Int))))),(.e 122 (.bool (decide (0<(m:Int))&&(!(P.rightEdge c t.b0 t.args0 t.kind))))),(.e 123 (.bool (decide (0<(m:Int))&&(!(P.rightEdge c t.b0 t.args0 t.kind))))),(.e 132 (.bool ((decide (0<(m:Int))&&(!(P.rightEdge c t.b0 t.args0 t.kind)))||(decide ((m:Int)≤0)&&(!(P.absent t.b0 t.args0)))))),(.e 133 (.I 1))]) hR hM hn169 (by kernel_rfl) ?_
      clear hR hM; intro a166 w167 hR hb168 hM hkn169 hln169 hnen169
      replace hB:=hB.tr hb168
      replace hkn139:=SX.blk_below hkn139 hb168
      replace hR:SX.RSt 134 [] [(.e 4 (.P n5)),(.e 6 (.P n13)),(.e 9 (.I (m:Int))),(.e 11 (.I 0)),(.e 12 (.P n169)),(.e 107 (.agg #[.I t.b0,.slice C3 t.args0.length l3,.I t.b1,.slice C4 t.args1.length l4])),(.e 108 (.I 1)),(.e 109 (.bool true)),(.e 110 (.I 1)),(.e 111 (.agg #[.I t.b1,.slice C4 t.args1.length l4])),(.e 112 (.I 0)),(.e 113 (.I (m:Int))),(.e 114 (.bool (decide (0<(m:Int))))),(.e 115 (.bool (decide (0<(m:Int))))),(.e 122 (.bool (decide (0<(m:Int))&&(!(P.rightEdge c t.b0 t.args0 t.kind))))),(.e 123 (.bool (decide (0<(m:Int))&&(!(P.rightEdge c t.b0 t.args0 t.kind))))),(.e 132 (.bool ((decide (0<(m:Int))&&(!(P.rightEdge c t.b0 t.args0 t.kind)))||(decide ((m:Int)≤0)&&(!(P.absent t.b0 t.args0)))))),(.e 133 (.I 1))] a166:=hR.keep (ts:=[4,6,9,11,12,107,108,109,110,111,112,113,114,115,122,123,132,133]) (by kernel_rfl)
      refine SX.list_q0 (κ:=[]) 3 1 [.ld []] [4,6,9,11,12,107,108,109,110,111,112,113,114,115,122,123,132,133] [(.e 4 (.P n5)),(.e 6 (.P n13)),(.e 9 (.I (m:Int))),(.e 11 (.I 1)),(.e 12 (.P n169)),(.e 107 (.agg #[.I t.b0,.slice C3 t.args0.length l3,.I t.b1,.slice C4 t.args1.length l4])),(.e 108 (.I 1)),(.e 109 (.bool true)),(.e 110 (.I 1)),(.e 111 (.agg #[.I t.b1,.slice C4 t.args1.length l4])),(.e 112 (.I 0)),(.e 113 (.I (m:Int))),(.e 114 (.bool (decide (0<(m:Int))))),(.e 115 (.bool (decide (0<(m:Int))))),(.e 122 (.bool (decide (0<(m:Int))&&(!(P.rightEdge c t.b0 t.args0 t.kind))))),(.e 123 (.bool (decide (0<(m:Int))&&(!(P.rightEdge c t.b0 t.args0 t.kind))))),(.e 132 (.bool ((decide (0<(m:Int))&&(!(P.rightEdge c t.b0 t.args0 t.kind)))||(decide ((m:Int)≤0)&&(!(P.absent t.b0 t.args0)))))),(.e 133 (.I 1))] hR hM (by kernel_rfl) (by kernel_rfl) ?_
      clear hR hM; intro a170 w171 hR hb172 hM
      replace hB:=hB.tr hb172
      replace hkn139:=SX.blk_below hkn139 hb172
      replace hkn169:=SX.blk_below hkn169 hb172
      refine SX.list_store 4 [(0,(.I t.b1)),(1,(.slice C4 t.args1.length l4))] [(.I t.b1),(.slice C4 t.args1.length l4)] [(⟨n139,0,none⟩,(.I t.b0)),(⟨n139,1,none⟩,(.slice C3 t.args0.length l3)),(⟨n13,0,none⟩,(.I t.kind)),(⟨n13,1,none⟩,(.I t.a)),(⟨n13,2,none⟩,(.I t.n)),(⟨n13,3,none⟩,(.slice C2 t.args.length l2)),(⟨n13,4,none⟩,(.I t.b0)),(⟨n13,5,none⟩,(.slice C3 t.args0.length l3)),(⟨n13,6,none⟩,(.I t.b1)),(⟨n13,7,none⟩,(.slice C4 t.args1.length l4)),(⟨n9,0,none⟩,(.I ps)),(⟨n9,1,none⟩,(.map (some mb))),(⟨n5,0,none⟩,(.I c.params)),(⟨n5,1,none⟩,(.slice A1 c.blocks.length k1)),(⟨n5,2,none⟩,(.slice A2 c.contexts.length k2)),(⟨n5,3,none⟩,(.slice A3 c.objects.length k3))] [(⟨n169,0,none⟩,(.I t.b1)),(⟨n169,1,none⟩,(.slice C4 t.args1.length l4)),(⟨n139,0,none⟩,(.I t.b0)),(⟨n139,1,none⟩,(.slice C3 t.args0.length l3)),(⟨n13,0,none⟩,(.I t.kind)),(⟨n13,1,none⟩,(.I t.a)),(⟨n13,2,none⟩,(.I t.n)),(⟨n13,3,none⟩,(.slice C2 t.args.length l2)),(⟨n13,4,none⟩,(.I t.b0)),(⟨n13,5,none⟩,(.slice C3 t.args0.length l3)),(⟨n13,6,none⟩,(.I t.b1)),(⟨n13,7,none⟩,(.slice C4 t.args1.length l4)),(⟨n9,0,none⟩,(.I ps)),(⟨n9,1,none⟩,(.map (some mb))),(⟨n5,0,none⟩,(.I c.params)),(⟨n5,1,none⟩,(.slice A1 c.blocks.length k1)),(⟨n5,2,none⟩,(.slice A2 c.contexts.length k2)),(⟨n5,3,none⟩,(.slice A3 c.objects.length k3))] hR (SX.cells_sub hM [0,1,2,3,4,5,6,7,8,9,10,11,12,13,14,15] (by kernel_rfl)) hnen169 hkn169 (by kernel_rfl) (by kernel_rfl) (by kernel_rfl) ?_
      clear hR hM hkn169; intro a173 w174 hR hb175 hM hkn169
      replace hB:=hB.trans (hb175.below (by omega))
      replace hkn139:=(hb175.block _ (by omega)).trans hkn139
      refine SX.list_end 5 (by kernel_rfl) ?_
      refine hK162 _ _ ?_
      refine SX.qf [(3,decide (1<(m:Int))),(11,(decide (1<(m:Int))&&(!(P.rightEdge c t.b1 t.args1 t.kind)))),(15,decide ((m:Int)≤1))] [.ld [],.ld [],.ld [],.ld [],.ld [14,15,16,17],.ld [0,1],.ld [],.ld [4],.cl (.bool (P.rightEdge c t.b1 t.args1 t.kind)),.ld [],.pk,.ld [],.ld [],.ld [],.ld [],.ld [],.ld [0,1],.cl (.bool (P.absent t.b1 t.args1)),.ld [],.pk,.pk] [4,6,9,11,12,107,108,109,110,111,112,113,114,115,122,123,132,133] [(.e 112 (.I 1)),(.e 113 (.I (m:Int))),(.e 114 (.bool (decide (1<(m:Int))))),(.e 115 (.bool (decide (1<(m:Int))))),(.e 122 (.bool (decide (1<(m:Int))&&(!(P.rightEdge c t.b1 t.args1 t.kind))))),(.e 123 (.bool (decide (1<(m:Int))&&(!(P.rightEdge c t.b1 t.args1 t.kind))))),(.e 132 (.bool ((decide (1<(m:Int))&&(!(P.rightEdge c t.b1 t.args1 t.kind)))||(decide ((m:Int)≤1)&&(!(P.absent t.b1 t.args1))))))] [] [] [([(3,true)],157,#[(.agg #[.I c.params,.slice A1 c.blocks.length k1,.slice A2 c.contexts.length k2,.slice A3 c.objects.length k3]),(.agg #[.I t.b1,.slice C4 t.args1.length l4]),(.I t.kind)],(.bool (P.rightEdge c t.b1 t.args1 t.kind))),([(15,true),(11,false)],156,#[(.agg #[.I t.b1,.slice C4 t.args1.length l4])],(.bool (P.absent t.b1 t.args1)))] [] hR hM hB mix trivial trivial (fun w' hb' hM'=>trivial) (fun w' hb' hM'=>⟨fun hg=>rightEdge_any c _ _ _ _ (h0.below (hB.tr hb')) _ _ _ _ (h4.below (hB.tr hb')),fun hg=>absent_any _ _ _ _ (h4.below (hB.tr hb')),trivial⟩) fun a176 w177 hR hb178 hB hM=>?_
      replace hkn139:=SX.blk_below hkn139 hb178
      replace hkn169:=SX.blk_below hkn169 hb178
      refine SX.cond_ ((decide (1<(m:Int))&&(!(P.rightEdge c t.b1 t.args1 t.kind)))||(decide ((m:Int)≤1)&&(!(P.absent t.b1 t.args1)))) hR (by kernel_rfl) (fun h179=>?_) (fun h179=>?_)
      ·skip
       refine SX.qs [.ld []] [4,6,8,9,11,12,107,108,109,110,111,112,113,114,115,122,123,132,133] [(.e 8 (.bool false))] hR hM hB mix fun a180 w181 hR hb182 hB hM=>?_
       replace hkn139:=SX.blk_below hkn139 hb182
       replace hkn169:=SX.blk_below hkn169 hb182
       refine wp_ret ?_
       try simp only [Exit.then,Exit.inBlock,Nat.reduceEqDiff,↓reduceIte]
       refine SX.ret_ 8 (.bool false) Try.results130 hR (by kernel_rfl) ?_
       clear hR hM mix hK1 hzn5 hb4 hkn5 hln5 hn5 hzn9 qn5n9 hb8 hkn9 hln9 hn9 hzn13 qn5n13 qn9n13 hb12 hkn13 hln13 hn13 hb16 hK17 hb20 hb27 hK122 hb125 hb128 hK129 hK131 hK132 hb135 hzn139 hb138 hkn139 hln139 hn139 hnen139 hb142 hb145 hb148 hb155 hb158 hK159 hK161 hK162 hb165 hzn169 qn139n169 hb168 hkn169 hln169 hn169 hnen169 hb172 hb175 hb178 hb182
       refine ⟨ret_bool ?_,hB⟩
       clear hB hp hD h h0 h2 h3 h4
       unfold rightTermH
       simp only [h21,Bool.false_eq_true,↓reduceIte]
       rw [hc4.1]
       simp only [hc17,Bool.false_eq_true,↓reduceIte]
       simp only [hc23,Bool.false_eq_true,↓reduceIte]
       simp only [lt0m,le0m,lt1m,le1m] at *
       have h5:=hc4.2
       clear hc4 hc17 hc23
       rcases (show m=0∨m=1∨m=2 by omega) with rfl | rfl | rfl <;> simp_all
      ·skip
       refine wp_skip ?_
       refine hK161 _ _ ?_
       refine SX.qs0 [.ld [],.ld []] [4,6,9,11,12,107,108,109,110,111,112,113,114,115,122,123,132,133] [(.e 108 (.I 2)),(.e 133 (.I 2))] hR hM hB mix fun a183 w184 hR hb185 hB hM=>?_
       replace hkn139:=SX.blk_below hkn139 hb185
       replace hkn169:=SX.blk_below hkn169 hb185
       show Code.rounds _ _ _ 1 _ _
       rw [rounds_succ]
       refine SX.qs [.ld []] [4,6,9,11,12,107,108,109,110,111,112,113,114,115,122,123,132,133] [(.e 109 (.bool false))] hR hM hB mix fun a186 w187 hR hb188 hB hM=>?_
       replace hkn139:=SX.blk_below hkn139 hb188
       replace hkn169:=SX.blk_below hkn169 hb188
       refine wp_seq_k fun K189 hK189=>?_
       refine SX.cond_ false hR (by kernel_rfl) (fun h190=>nomatch h190) (fun h190=>?_)
       refine wp_exit ?_
       refine hK122 _ _ ?_
       refine SX.qs [.ld []] [4,6,8,9,11,12,107,108,109,110,111,112,113,114,115,122,123,132,133] [(.e 8 (.bool true))] hR hM hB mix fun a191 w192 hR hb193 hB hM=>?_
       replace hkn139:=SX.blk_below hkn139 hb193
       replace hkn169:=SX.blk_below hkn169 hb193
       refine wp_ret ?_
       try simp only [Exit.then,Exit.inBlock,Nat.reduceEqDiff,↓reduceIte]
       refine SX.ret_ 8 (.bool true) Try.results130 hR (by kernel_rfl) ?_
       clear hR hM mix hK1 hzn5 hb4 hkn5 hln5 hn5 hzn9 qn5n9 hb8 hkn9 hln9 hn9 hzn13 qn5n13 qn9n13 hb12 hkn13 hln13 hn13 hb16 hK17 hb20 hb27 hK122 hb125 hb128 hK129 hK131 hK132 hb135 hzn139 hb138 hkn139 hln139 hn139 hnen139 hb142 hb145 hb148 hb155 hb158 hK159 hK161 hK162 hb165 hzn169 qn139n169 hb168 hkn169 hln169 hn169 hnen169 hb172 hb175 hb178 hb185 hb188 hK189 hb193
       refine ⟨ret_bool ?_,hB⟩
       clear hB hp hD h h0 h2 h3 h4
       unfold rightTermH
       simp only [h21,Bool.false_eq_true,↓reduceIte]
       rw [hc4.1]
       simp only [hc17,Bool.false_eq_true,↓reduceIte]
       simp only [hc23,Bool.false_eq_true,↓reduceIte]
       simp only [lt0m,le0m,lt1m,le1m] at *
       have h5:=hc4.2
       clear hc4 hc17 hc23
       rcases (show m=0∨m=1∨m=2 by omega) with rfl | rfl | rfl <;> simp_all
end Go.Proofs.Ytlkcidmmpeebeaa
