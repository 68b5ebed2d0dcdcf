/- Proved: ref06.term -/
import Derived.Test.YtlkcidmmpeebeaaHeads
set_option linter.unusedVariables false
set_option linter.unusedSimpArgs false
namespace Go.Proofs.Ytlkcidmmpeebeaa
open Go.RowKit
set_option maxRecDepth 100000
theorem gt0 (n:Nat):decide ((0:Int)<(n:Int))=decide (0<n):=by rw [Bool.eq_iff_iff]; simp

set_option maxHeartbeats 2000000 in
theorem refTerm_any (c:CodeD) (v1 v2 v3:Value) (w:World) (h:CodeAt w v1 v2 v3 c) (b:BlockD) (u1 u2 u3 u4:Value) (hb:BlkAt w u1 u2 u3 u4 b) (hbp:0≤b.params∧b.params≤999) (hol:b.ops.length≤6000):Calls Try.prog 59 #[(.agg #[.I c.params,v1,v2,v3]),(.agg #[.I b.params,u1,.I b.term.kind,.I b.term.a,.I b.term.n,u2,.I b.term.b0,u3,.I b.term.b1,u4])] w fun e w'=>e=.returned (.bool (R.term c b))∧Below w.heap.size w w':=by
 have h0:=h
 obtain ⟨A1,k1,rfl,s1⟩:=h.2.1.shape
 obtain ⟨A2,k2,rfl,s2⟩:=h.2.2.1.shape
 obtain ⟨A3,k3,rfl,s3⟩:=h.2.2.2.shape
 unfold Shape at s1 s2 s3
 have hb0:=hb
 obtain ⟨B1,j1,rfl,t1⟩:=hb.2.1.shape
 obtain ⟨B2,j2,rfl,t2⟩:=hb.2.2.1.shape
 obtain ⟨B3,j3,rfl,t3⟩:=hb.2.2.2.1.shape
 obtain ⟨B4,j4,rfl,t4⟩:=hb.2.2.2.2.shape
 unfold Shape at t1 t2 t3 t4
 have mix:=mixed
 have hB:Below w.heap.size w w:=Below.refl _ _
 have hM:SX.Cells w []:=SX.cells_nil
 refine SX.enter [(.agg #[.I c.params,.slice A1 c.blocks.length k1,.slice A2 c.contexts.length k2,.slice A3 c.objects.length k3]),(.agg #[.I b.params,.slice B1 b.ops.length j1,.I b.term.kind,.I b.term.a,.I b.term.n,.slice B2 b.term.args.length j2,.I b.term.b0,.slice B3 b.term.args0.length j3,.I b.term.b1,.slice B4 b.term.args1.length j4])] 167 Try.func59 rfl rfl (by kernel_rfl) ?_
 intro a hR
 refine wp_seq_k fun K1 hK1=>?_
 refine SX.region_l ?_
 obtain ⟨n5,hn5⟩:∃ n,w.heap.size=n:=⟨_,rfl⟩
 have hzn5:w.heap.size≤n5:=by have:=hB.size; omega
 refine SX.list_box 0 n5 [(.I c.params),(.slice A1 c.blocks.length k1),(.slice A2 c.contexts.length k2),(.slice A3 c.objects.length k3)] 26 ((.e 2 (.P n5))::[(.e 0 (.agg #[.I c.params,.slice A1 c.blocks.length k1,.slice A2 c.contexts.length k2,.slice A3 c.objects.length k3])),(.e 1 (.agg #[.I b.params,.slice B1 b.ops.length j1,.I b.term.kind,.I b.term.a,.I b.term.n,.slice B2 b.term.args.length j2,.I b.term.b0,.slice B3 b.term.args0.length j3,.I b.term.b1,.slice B4 b.term.args1.length j4]))]) [(⟨n5,0,none⟩,(.I c.params)),(⟨n5,1,none⟩,(.slice A1 c.blocks.length k1)),(⟨n5,2,none⟩,(.slice A2 c.contexts.length k2)),(⟨n5,3,none⟩,(.slice A3 c.objects.length k3))] hR hM hn5 (by kernel_rfl) (by kernel_rfl) ?_
 clear hR hM; intro a2 w3 hR hb4 hM hkn5 hln5
 replace hB:=hB.tr hb4
 replace hR:SX.RSt 167 [] [(.e 1 (.agg #[.I b.params,.slice B1 b.ops.length j1,.I b.term.kind,.I b.term.a,.I b.term.n,.slice B2 b.term.args.length j2,.I b.term.b0,.slice B3 b.term.args0.length j3,.I b.term.b1,.slice B4 b.term.args1.length j4])),(.e 2 (.P n5))] a2:=hR.keep (ts:=[1,2]) (by kernel_rfl)
 obtain ⟨n9,hn9⟩:∃ n,w3.heap.size=n:=⟨_,rfl⟩
 have hzn9:w.heap.size≤n9:=by have:=hB.size; omega
 have qn5n9:n5<n9:=by have:=(Array.getElem?_eq_some_iff.1 hkn5).1; omega
 refine SX.list_box 1 n9 [(.I b.params),(.slice B1 b.ops.length j1),(.I b.term.kind),(.I b.term.a),(.I b.term.n),(.slice B2 b.term.args.length j2),(.I b.term.b0),(.slice B3 b.term.args0.length j3),(.I b.term.b1),(.slice B4 b.term.args1.length j4)] 62 ((.e 3 (.P n9))::[(.e 1 (.agg #[.I b.params,.slice B1 b.ops.length j1,.I b.term.kind,.I b.term.a,.I b.term.n,.slice B2 b.term.args.length j2,.I b.term.b0,.slice B3 b.term.args0.length j3,.I b.term.b1,.slice B4 b.term.args1.length j4])),(.e 2 (.P n5))]) [(⟨n9,0,none⟩,(.I b.params)),(⟨n9,1,none⟩,(.slice B1 b.ops.length j1)),(⟨n9,2,none⟩,(.I b.term.kind)),(⟨n9,3,none⟩,(.I b.term.a)),(⟨n9,4,none⟩,(.I b.term.n)),(⟨n9,5,none⟩,(.slice B2 b.term.args.length j2)),(⟨n9,6,none⟩,(.I b.term.b0)),(⟨n9,7,none⟩,(.slice B3 b.term.args0.length j3)),(⟨n9,8,none⟩,(.I b.term.b1)),(⟨n9,9,none⟩,(.slice B4 b.term.args1.length j4)),(⟨n5,0,none⟩,(.I c.params)),(⟨n5,1,none⟩,(.slice A1 c.blocks.length k1)),(⟨n5,2,none⟩,(.slice A2 c.contexts.length k2)),(⟨n5,3,none⟩,(.slice A3 c.objects.length k3))] hR hM hn9 (by kernel_rfl) (by kernel_rfl) ?_
 clear hR hM; intro a6 w7 hR hb8 hM hkn9 hln9
 replace hB:=hB.tr hb8
 replace hkn5:=SX.blk_below hkn5 hb8
 replace hR:SX.RSt 167 [] [(.e 2 (.P n5)),(.e 3 (.P n9))] a6:=hR.keep (ts:=[2,3]) (by kernel_rfl)
 refine SX.list_q0 (κ:=[]) 2 1 [.ld []] [2,3] [(.e 2 (.P n5)),(.e 3 (.P n9))] hR hM (by kernel_rfl) (by kernel_rfl) ?_
 clear hR hM; intro a10 w11 hR hb12 hM
 replace hB:=hB.tr hb12
 replace hkn5:=SX.blk_below hkn5 hb12
 replace hkn9:=SX.blk_below hkn9 hb12
 refine SX.list_end 3 (by kernel_rfl) ?_
 refine hK1 _ _ ?_
 refine wp_seq_k fun K13 hK13=>?_
 refine SX.region_cut (fun a' w'=>∃ Al:Option Addr,∃ ka:Nat,∃ d1x4:Nat,SX.RSt 167 [] [(.e 2 (.P n5)),(.e 5 (.P d1x4)),(.e 6 (.slice Al ((R.values b).length) ka))] a'∧Below w.heap.size w w'∧SX.Cells w' [(⟨d1x4,0,none⟩,(.I b.term.kind)),(⟨d1x4,1,none⟩,(.I b.term.a)),(⟨d1x4,2,none⟩,(.I b.term.n)),(⟨d1x4,3,none⟩,(.slice B2 b.term.args.length j2)),(⟨d1x4,4,none⟩,(.I b.term.b0)),(⟨d1x4,5,none⟩,(.slice B3 b.term.args0.length j3)),(⟨d1x4,6,none⟩,(.I b.term.b1)),(⟨d1x4,7,none⟩,(.slice B4 b.term.args1.length j4)),(⟨n9,0,none⟩,(.I b.params)),(⟨n9,1,none⟩,(.slice B1 b.ops.length j1)),(⟨n9,2,none⟩,(.I b.term.kind)),(⟨n9,3,none⟩,(.I b.term.a)),(⟨n9,4,none⟩,(.I b.term.n)),(⟨n9,5,none⟩,(.slice B2 b.term.args.length j2)),(⟨n9,6,none⟩,(.I b.term.b0)),(⟨n9,7,none⟩,(.slice B3 b.term.args0.length j3)),(⟨n9,8,none⟩,(.I b.term.b1)),(⟨n9,9,none⟩,(.slice B4 b.term.args1.length j4)),(⟨n5,0,none⟩,(.I c.params)),(⟨n5,1,none⟩,(.slice A1 c.blocks.length k1)),(⟨n5,2,none⟩,(.slice A2 c.contexts.length k2)),(⟨n5,3,none⟩,(.slice A3 c.objects.length k3))]∧w.heap.size≤d1x4∧n5<d1x4∧n9<d1x4∧w'.heap[d1x4]?=some (.cells [(.I b.term.kind),(.I b.term.a),(.I b.term.n),(.slice B2 b.term.args.length j2),(.I b.term.b0),(.slice B3 b.term.args0.length j3),(.I b.term.b1),(.slice B4 b.term.args1.length j4)].toArray 60 (0,0))∧w'.heap[n5]?=some (.cells [(.I c.params),(.slice A1 c.blocks.length k1),(.slice A2 c.contexts.length k2),(.slice A3 c.objects.length k3)].toArray 26 (0,0))∧w'.heap[n9]?=some (.cells [(.I b.params),(.slice B1 b.ops.length j1),(.I b.term.kind),(.I b.term.a),(.I b.term.n),(.slice B2 b.term.args.length j2),(.I b.term.b0),(.slice B3 b.term.args0.length j3),(.I b.term.b1),(.slice B4 b.term.args1.length j4)].toArray 62 (0,0))∧IntsAt w' (.slice Al (R.values b).length ka) (R.values b)) ?_ ?_
 ·skip
  refine SX.any_start (M:=[(⟨n9,0,none⟩,(.I b.params)),(⟨n9,1,none⟩,(.slice B1 b.ops.length j1)),(⟨n9,2,none⟩,(.I b.term.kind)),(⟨n9,3,none⟩,(.I b.term.a)),(⟨n9,4,none⟩,(.I b.term.n)),(⟨n9,5,none⟩,(.slice B2 b.term.args.length j2)),(⟨n9,6,none⟩,(.I b.term.b0)),(⟨n9,7,none⟩,(.slice B3 b.term.args0.length j3)),(⟨n9,8,none⟩,(.I b.term.b1)),(⟨n9,9,none⟩,(.slice B4 b.term.args1.length j4)),(⟨n5,0,none⟩,(.I c.params)),(⟨n5,1,none⟩,(.slice A1 c.blocks.length k1)),(⟨n5,2,none⟩,(.slice A2 c.contexts.length k2)),(⟨n5,3,none⟩,(.slice A3 c.objects.length k3))]) 7 7 (by kernel_rfl) mix (by kernel_rfl) ?_
  intro w15 hb16 hszw15; replace hM:=hM.below hb16
  replace hB:=hB.tr hb16
  replace hkn5:=SX.blk_below hkn5 hb16
  replace hkn9:=SX.blk_below hkn9 hb16
  replace hR:SX.RSt 167 [] [(.e 2 (.P n5)),(.e 3 (.P n9))] _:=hR.keep (ts:=[2,3]) (by kernel_rfl)
  refine SX.any_quiet (κ:=[]) 4 [0,2,1] [.ld [],.ld [0,1,2,3,4,5,6,7,8,9],.ld [2,3,4,5,6,7,8,9]] [(.e 12 (.agg #[.I b.term.kind,.I b.term.a,.I b.term.n,.slice B2 b.term.args.length j2,.I b.term.b0,.slice B3 b.term.args0.length j3,.I b.term.b1,.slice B4 b.term.args1.length j4])),(.e 13 (.agg #[.I b.params,.slice B1 b.ops.length j1,.I b.term.kind,.I b.term.a,.I b.term.n,.slice B2 b.term.args.length j2,.I b.term.b0,.slice B3 b.term.args0.length j3,.I b.term.b1,.slice B4 b.term.args1.length j4])),(.e 11 (.pointer (some ⟨n9,2,none⟩))),(.e 2 (.P n5)),(.e 3 (.P n9))] [] [] [] 7 (by kernel_rfl) hR hM (by kernel_rfl) (by kernel_rfl) (by kernel_rfl) (by kernel_rfl) (by kernel_rfl) trivial trivial (fun w' hM'=>trivial) ?_
  clear hR; intro a17 hR
  refine SX.any_loud 3 [3,4] 4 (by kernel_rfl) (by kernel_rfl) (by kernel_rfl) (by kernel_rfl) (SX.next1_cons ?_ (SX.next1_cons ?_ SX.next1_nil))
  ·skip
   intro K18 hK18
   have hlwn5:=(Array.getElem?_eq_some_iff.1 hkn5).1
   have hlwn9:=(Array.getElem?_eq_some_iff.1 hkn9).1
   refine SX.list_callR 0 14 86 #[(.agg #[.I b.params,.slice B1 b.ops.length j1,.I b.term.kind,.I b.term.a,.I b.term.n,.slice B2 b.term.args.length j2,.I b.term.b0,.slice B3 b.term.args0.length j3,.I b.term.b1,.slice B4 b.term.args1.length j4])] hR (by kernel_rfl) (by kernel_rfl) (values_any _ b _ _ _ _ (hb0.below hB) hbp hol) ?_
   clear hR; intro vd1x3 a19 w20 hR hb21 hphi; replace hM:=hM.below hb21
   replace hB:=hB.tr hb21
   replace hkn5:=SX.blk_below hkn5 hb21
   replace hkn9:=SX.blk_below hkn9 hb21
   obtain ⟨hal,hfr⟩:=hphi
   obtain ⟨Al,ka,rfl,sal⟩:=hal.shape
   have hofn5hal:=Off.of_fresh (p:=(R.values b)≠[]) hfr hlwn5
   have hofn9hal:=Off.of_fresh (p:=(R.values b)≠[]) hfr hlwn9
   refine SX.list_end 1 (by kernel_rfl) ?_
   refine hK18 _ _ (fun _=>hM) ?_
   refine SX.any_loud 2 [4] 3 (by kernel_rfl) (by kernel_rfl) (by kernel_rfl) (by kernel_rfl) (SX.next1_cons ?_ SX.next1_nil)
   ·skip
    intro K22 hK22
    obtain ⟨d1x4,hd1x4⟩:∃ n,w20.heap.size=n:=⟨_,rfl⟩
    have hzd1x4:w.heap.size≤d1x4:=by have:=hB.size; omega
    have hofd1x4hal:=hal.off_new hd1x4
    have qn5d1x4:n5<d1x4:=by have:=(Array.getElem?_eq_some_iff.1 hkn5).1; omega
    have qn9d1x4:n9<d1x4:=by have:=(Array.getElem?_eq_some_iff.1 hkn9).1; omega
    refine SX.list_alloc 0 d1x4 [(.I 0),(.I 0),(.I 0),(.slice none 0 0),(.I 0),(.slice none 0 0),(.I 0),(.slice none 0 0)] 60 [(.e 5 (.P d1x4)),(.e 14 (.slice Al ((R.values b).length) ka)),(.e 12 (.agg #[.I b.term.kind,.I b.term.a,.I b.term.n,.slice B2 b.term.args.length j2,.I b.term.b0,.slice B3 b.term.args0.length j3,.I b.term.b1,.slice B4 b.term.args1.length j4])),(.e 13 (.agg #[.I b.params,.slice B1 b.ops.length j1,.I b.term.kind,.I b.term.a,.I b.term.n,.slice B2 b.term.args.length j2,.I b.term.b0,.slice B3 b.term.args0.length j3,.I b.term.b1,.slice B4 b.term.args1.length j4])),(.e 11 (.pointer (some ⟨n9,2,none⟩))),(.e 2 (.P n5)),(.e 3 (.P n9))] hR hM hd1x4 (by kernel_rfl) ?_
    clear hR hM; intro a23 w24 hR hb25 hM hkd1x4 hld1x4 hned1x4; clear hd1x4
    replace hB:=hB.tr hb25
    replace hal:=hal.below hb25
    replace hkn5:=SX.blk_below hkn5 hb25
    replace hkn9:=SX.blk_below hkn9 hb25
    refine SX.list_end 1 (by kernel_rfl) ?_
    refine hK22 _ _ (fun _=>hM) ?_
    refine SX.any_loud 1 [5] 2 (by kernel_rfl) (by kernel_rfl) (by kernel_rfl) (by kernel_rfl) (SX.next1_cons ?_ SX.next1_nil)
    ·skip
     intro K26 hK26
     refine SX.list_store 0 [(0,(.I b.term.kind)),(1,(.I b.term.a)),(2,(.I b.term.n)),(3,(.slice B2 b.term.args.length j2)),(4,(.I b.term.b0)),(5,(.slice B3 b.term.args0.length j3)),(6,(.I b.term.b1)),(7,(.slice B4 b.term.args1.length j4))] [(.I b.term.kind),(.I b.term.a),(.I b.term.n),(.slice B2 b.term.args.length j2),(.I b.term.b0),(.slice B3 b.term.args0.length j3),(.I b.term.b1),(.slice B4 b.term.args1.length j4)] [(⟨n9,0,none⟩,(.I b.params)),(⟨n9,1,none⟩,(.slice B1 b.ops.length j1)),(⟨n9,2,none⟩,(.I b.term.kind)),(⟨n9,3,none⟩,(.I b.term.a)),(⟨n9,4,none⟩,(.I b.term.n)),(⟨n9,5,none⟩,(.slice B2 b.term.args.length j2)),(⟨n9,6,none⟩,(.I b.term.b0)),(⟨n9,7,none⟩,(.slice B3 b.term.args0.length j3)),(⟨n9,8,none⟩,(.I b.term.b1)),(⟨n9,9,none⟩,(.slice B4 b.term.args1.length j4)),(⟨n5,0,none⟩,(.I c.params)),(⟨n5,1,none⟩,(.slice A1 c.blocks.length k1)),(⟨n5,2,none⟩,(.slice A2 c.contexts.length k2)),(⟨n5,3,none⟩,(.slice A3 c.objects.length k3))] [(⟨d1x4,0,none⟩,(.I b.term.kind)),(⟨d1x4,1,none⟩,(.I b.term.a)),(⟨d1x4,2,none⟩,(.I b.term.n)),(⟨d1x4,3,none⟩,(.slice B2 b.term.args.length j2)),(⟨d1x4,4,none⟩,(.I b.term.b0)),(⟨d1x4,5,none⟩,(.slice B3 b.term.args0.length j3)),(⟨d1x4,6,none⟩,(.I b.term.b1)),(⟨d1x4,7,none⟩,(.slice B4 b.term.args1.length j4)),(⟨n9,0,none⟩,(.I b.params)),(⟨n9,1,none⟩,(.slice B1 b.ops.length j1)),(⟨n9,2,none⟩,(.I b.term.kind)),(⟨n9,3,none⟩,(.I b.term.a)),(⟨n9,4,none⟩,(.I b.term.n)),(⟨n9,5,none⟩,(.slice B2 b.term.args.length j2)),(⟨n9,6,none⟩,(.I b.term.b0)),(⟨n9,7,none⟩,(.slice B3 b.term.args0.length j3)),(⟨n9,8,none⟩,(.I b.term.b1)),(⟨n9,9,none⟩,(.slice B4 b.term.args1.length j4)),(⟨n5,0,none⟩,(.I c.params)),(⟨n5,1,none⟩,(.slice A1 c.blocks.length k1)),(⟨n5,2,none⟩,(.slice A2 c.contexts.length k2)),(⟨n5,3,none⟩,(.slice A3 c.objects.length k3))] hR (SX.cells_sub hM [0,1,2,3,4,5,6,7,8,9,10,11,12,13] (by kernel_rfl)) hned1x4 hkd1x4 (by kernel_rfl) (by kernel_rfl) (by kernel_rfl) ?_
     clear hR hM hkd1x4; intro a27 w28 hR hb29 hM hkd1x4
     replace hB:=hB.trans (hb29.below (by omega))
     replace hal:=hal.but hb29 hofd1x4hal
     replace hkn5:=(hb29.block _ (by omega)).trans hkn5
     replace hkn9:=(hb29.block _ (by omega)).trans hkn9
     have hX:=hM
     replace hM:SX.Cells _ [(⟨n9,0,none⟩,(.I b.params)),(⟨n9,1,none⟩,(.slice B1 b.ops.length j1)),(⟨n9,2,none⟩,(.I b.term.kind)),(⟨n9,3,none⟩,(.I b.term.a)),(⟨n9,4,none⟩,(.I b.term.n)),(⟨n9,5,none⟩,(.slice B2 b.term.args.length j2)),(⟨n9,6,none⟩,(.I b.term.b0)),(⟨n9,7,none⟩,(.slice B3 b.term.args0.length j3)),(⟨n9,8,none⟩,(.I b.term.b1)),(⟨n9,9,none⟩,(.slice B4 b.term.args1.length j4)),(⟨n5,0,none⟩,(.I c.params)),(⟨n5,1,none⟩,(.slice A1 c.blocks.length k1)),(⟨n5,2,none⟩,(.slice A2 c.contexts.length k2)),(⟨n5,3,none⟩,(.slice A3 c.objects.length k3))]:=SX.cells_sub hM [8,9,10,11,12,13,14,15,16,17,18,19,20,21] (by kernel_rfl)
     refine SX.list_end 1 (by kernel_rfl) ?_
     refine hK26 _ _ (fun _=>hM) ?_
     refine SX.any_quiet (κ:=[]) 0 [6] [.ld []] [(.e 6 (.slice Al ((R.values b).length) ka)),(.e 5 (.P d1x4)),(.e 14 (.slice Al ((R.values b).length) ka)),(.e 12 (.agg #[.I b.term.kind,.I b.term.a,.I b.term.n,.slice B2 b.term.args.length j2,.I b.term.b0,.slice B3 b.term.args0.length j3,.I b.term.b1,.slice B4 b.term.args1.length j4])),(.e 13 (.agg #[.I b.params,.slice B1 b.ops.length j1,.I b.term.kind,.I b.term.a,.I b.term.n,.slice B2 b.term.args.length j2,.I b.term.b0,.slice B3 b.term.args0.length j3,.I b.term.b1,.slice B4 b.term.args1.length j4])),(.e 11 (.pointer (some ⟨n9,2,none⟩))),(.e 2 (.P n5)),(.e 3 (.P n9))] [] [] [] 1 (by kernel_rfl) hR hM (by kernel_rfl) (by kernel_rfl) (by kernel_rfl) (by kernel_rfl) (by kernel_rfl) trivial trivial (fun w' hM'=>trivial) ?_
     clear hR; intro a31 hR
     refine SX.any_end (by kernel_rfl) ?_
     exact ⟨Al,ka,d1x4,hR.keep (ts:=[2,5,6]) (by kernel_rfl),hB,SX.cells_sub hX [0,1,2,3,4,5,6,7,8,9,10,11,12,13,14,15,16,17,18,19,20,21] (by kernel_rfl),hzd1x4,qn5d1x4,qn9d1x4,hkd1x4,hkn5,hkn9,hal⟩
  ·skip
   intro K32 hK32
   obtain ⟨d1x4,hd1x4⟩:∃ n,w15.heap.size=n:=⟨_,rfl⟩
   have hzd1x4:w.heap.size≤d1x4:=by have:=hB.size; omega
   have qn5d1x4:n5<d1x4:=by have:=(Array.getElem?_eq_some_iff.1 hkn5).1; omega
   have qn9d1x4:n9<d1x4:=by have:=(Array.getElem?_eq_some_iff.1 hkn9).1; omega
   refine SX.list_alloc 0 d1x4 [(.I 0),(.I 0),(.I 0),(.slice none 0 0),(.I 0),(.slice none 0 0),(.I 0),(.slice none 0 0)] 60 [(.e 5 (.P d1x4)),(.e 12 (.agg #[.I b.term.kind,.I b.term.a,.I b.term.n,.slice B2 b.term.args.length j2,.I b.term.b0,.slice B3 b.term.args0.length j3,.I b.term.b1,.slice B4 b.term.args1.length j4])),(.e 13 (.agg #[.I b.params,.slice B1 b.ops.length j1,.I b.term.kind,.I b.term.a,.I b.term.n,.slice B2 b.term.args.length j2,.I b.term.b0,.slice B3 b.term.args0.length j3,.I b.term.b1,.slice B4 b.term.args1.length j4])),(.e 11 (.pointer (some ⟨n9,2,none⟩))),(.e 2 (.P n5)),(.e 3 (.P n9))] hR hM hd1x4 (by kernel_rfl) ?_
   clear hR hM; intro a33 w34 hR hb35 hM hkd1x4 hld1x4 hned1x4; clear hd1x4
   replace hB:=hB.tr hb35
   replace hkn5:=SX.blk_below hkn5 hb35
   replace hkn9:=SX.blk_below hkn9 hb35
   refine SX.list_end 1 (by kernel_rfl) ?_
   refine hK32 _ _ (fun _=>hM) ?_
   refine SX.any_loud 2 [3] 3 (by kernel_rfl) (by kernel_rfl) (by kernel_rfl) (by kernel_rfl) (SX.next1_cons ?_ SX.next1_nil)
   ·skip
    intro K36 hK36
    have hlwn5:=(Array.getElem?_eq_some_iff.1 hkn5).1
    have hlwn9:=(Array.getElem?_eq_some_iff.1 hkn9).1
    have hlwd1x4:=(Array.getElem?_eq_some_iff.1 hkd1x4).1
    refine SX.list_callR 0 14 86 #[(.agg #[.I b.params,.slice B1 b.ops.length j1,.I b.term.kind,.I b.term.a,.I b.term.n,.slice B2 b.term.args.length j2,.I b.term.b0,.slice B3 b.term.args0.length j3,.I b.term.b1,.slice B4 b.term.args1.length j4])] hR (by kernel_rfl) (by kernel_rfl) (values_any _ b _ _ _ _ (hb0.below hB) hbp hol) ?_
    clear hR; intro vd1x3 a37 w38 hR hb39 hphi; replace hM:=hM.below hb39
    replace hB:=hB.tr hb39
    replace hkn5:=SX.blk_below hkn5 hb39
    replace hkn9:=SX.blk_below hkn9 hb39
    replace hkd1x4:=SX.blk_below hkd1x4 hb39
    obtain ⟨hal,hfr⟩:=hphi
    obtain ⟨Al,ka,rfl,sal⟩:=hal.shape
    have hofn5hal:=Off.of_fresh (p:=(R.values b)≠[]) hfr hlwn5
    have hofn9hal:=Off.of_fresh (p:=(R.values b)≠[]) hfr hlwn9
    have hofd1x4hal:=Off.of_fresh (p:=(R.values b)≠[]) hfr hlwd1x4
    refine SX.list_end 1 (by kernel_rfl) ?_
    refine hK36 _ _ (fun _=>hM) ?_
    refine SX.any_loud 1 [5] 2 (by kernel_rfl) (by kernel_rfl) (by kernel_rfl) (by kernel_rfl) (SX.next1_cons ?_ SX.next1_nil)
    ·skip
     intro K40 hK40
     refine SX.list_store 0 [(0,(.I b.term.kind)),(1,(.I b.term.a)),(2,(.I b.term.n)),(3,(.slice B2 b.term.args.length j2)),(4,(.I b.term.b0)),(5,(.slice B3 b.term.args0.length j3)),(6,(.I b.term.b1)),(7,(.slice B4 b.term.args1.length j4))] [(.I b.term.kind),(.I b.term.a),(.I b.term.n),(.slice B2 b.term.args.length j2),(.I b.term.b0),(.slice B3 b.term.args0.length j3),(.I b.term.b1),(.slice B4 b.term.args1.length j4)] [(⟨n9,0,none⟩,(.I b.params)),(⟨n9,1,none⟩,(.slice B1 b.ops.length j1)),(⟨n9,2,none⟩,(.I b.term.kind)),(⟨n9,3,none⟩,(.I b.term.a)),(⟨n9,4,none⟩,(.I b.term.n)),(⟨n9,5,none⟩,(.slice B2 b.term.args.length j2)),(⟨n9,6,none⟩,(.I b.term.b0)),(⟨n9,7,none⟩,(.slice B3 b.term.args0.length j3)),(⟨n9,8,none⟩,(.I b.term.b1)),(⟨n9,9,none⟩,(.slice B4 b.term.args1.length j4)),(⟨n5,0,none⟩,(.I c.params)),(⟨n5,1,none⟩,(.slice A1 c.blocks.length k1)),(⟨n5,2,none⟩,(.slice A2 c.contexts.length k2)),(⟨n5,3,none⟩,(.slice A3 c.objects.length k3))] [(⟨d1x4,0,none⟩,(.I b.term.kind)),(⟨d1x4,1,none⟩,(.I b.term.a)),(⟨d1x4,2,none⟩,(.I b.term.n)),(⟨d1x4,3,none⟩,(.slice B2 b.term.args.length j2)),(⟨d1x4,4,none⟩,(.I b.term.b0)),(⟨d1x4,5,none⟩,(.slice B3 b.term.args0.length j3)),(⟨d1x4,6,none⟩,(.I b.term.b1)),(⟨d1x4,7,none⟩,(.slice B4 b.term.args1.length j4)),(⟨n9,0,none⟩,(.I b.params)),(⟨n9,1,none⟩,(.slice B1 b.ops.length j1)),(⟨n9,2,none⟩,(.I b.term.kind)),(⟨n9,3,none⟩,(.I b.term.a)),(⟨n9,4,none⟩,(.I b.term.n)),(⟨n9,5,none⟩,(.slice B2 b.term.args.length j2)),(⟨n9,6,none⟩,(.I b.term.b0)),(⟨n9,7,none⟩,(.slice B3 b.term.args0.length j3)),(⟨n9,8,none⟩,(.I b.term.b1)),(⟨n9,9,none⟩,(.slice B4 b.term.args1.length j4)),(⟨n5,0,none⟩,(.I c.params)),(⟨n5,1,none⟩,(.slice A1 c.blocks.length k1)),(⟨n5,2,none⟩,(.slice A2 c.contexts.length k2)),(⟨n5,3,none⟩,(.slice A3 c.objects.length k3))] hR (SX.cells_sub hM [0,1,2,3,4,5,6,7,8,9,10,11,12,13] (by kernel_rfl)) hned1x4 hkd1x4 (by kernel_rfl) (by kernel_rfl) (by kernel_rfl) ?_
     clear hR hM hkd1x4; intro a41 w42 hR hb43 hM hkd1x4
     replace hB:=hB.trans (hb43.below (by omega))
     replace hal:=hal.but hb43 hofd1x4hal
     replace hkn5:=(hb43.block _ (by omega)).trans hkn5
     replace hkn9:=(hb43.block _ (by omega)).trans hkn9
     have hX:=hM
     replace hM:SX.Cells _ [(⟨n9,0,none⟩,(.I b.params)),(⟨n9,1,none⟩,(.slice B1 b.ops.length j1)),(⟨n9,2,none⟩,(.I b.term.kind)),(⟨n9,3,none⟩,(.I b.term.a)),(⟨n9,4,none⟩,(.I b.term.n)),(⟨n9,5,none⟩,(.slice B2 b.term.args.length j2)),(⟨n9,6,none⟩,(.I b.term.b0)),(⟨n9,7,none⟩,(.slice B3 b.term.args0.length j3)),(⟨n9,8,none⟩,(.I b.term.b1)),(⟨n9,9,none⟩,(.slice B4 b.term.args1.length j4)),(⟨n5,0,none⟩,(.I c.params)),(⟨n5,1,none⟩,(.slice A1 c.blocks.length k1)),(⟨n5,2,none⟩,(.slice A2 c.contexts.length k2)),(⟨n5,3,none⟩,(.slice A3 c.objects.length k3))]:=SX.cells_sub hM [8,9,10,11,12,13,14,15,16,17,18,19,20,21] (by kernel_rfl)
     refine SX.list_end 1 (by kernel_rfl) ?_
     refine hK40 _ _ (fun _=>hM) ?_
     refine SX.any_quiet (κ:=[]) 0 [6] [.ld []] [(.e 6 (.slice Al ((R.values b).length) ka)),(.e 14 (.slice Al ((R.values b).length) ka)),(.e 5 (.P d1x4)),(.e 12 (.agg #[.I b.term.kind,.I b.term.a,.I b.term.n,.slice B2 b.term.args.length j2,.I b.term.b0,.slice B3 b.term.args0.length j3,.I b.term.b1,.slice B4 b.term.args1.length j4])),(.e 13 (.agg #[.I b.params,.slice B1 b.ops.length j1,.I b.term.kind,.I b.term.a,.I b.term.n,.slice B2 b.term.args.length j2,.I b.term.b0,.slice B3 b.term.args0.length j3,.I b.term.b1,.slice B4 b.term.args1.length j4])),(.e 11 (.pointer (some ⟨n9,2,none⟩))),(.e 2 (.P n5)),(.e 3 (.P n9))] [] [] [] 1 (by kernel_rfl) hR hM (by kernel_rfl) (by kernel_rfl) (by kernel_rfl) (by kernel_rfl) (by kernel_rfl) trivial trivial (fun w' hM'=>trivial) ?_
     clear hR; intro a45 hR
     refine SX.any_end (by kernel_rfl) ?_
     exact ⟨Al,ka,d1x4,hR.keep (ts:=[2,5,6]) (by kernel_rfl),hB,SX.cells_sub hX [0,1,2,3,4,5,6,7,8,9,10,11,12,13,14,15,16,17,18,19,20,21] (by kernel_rfl),hzd1x4,qn5d1x4,qn9d1x4,hkd1x4,hkn5,hkn9,hal⟩
 ·skip
  clear hR hM hB hkn5 hkn9
  rintro a46 w47 ⟨Al,ka,d1x4,hR,hB,hM,hzd1x4,qn5d1x4,qn9d1x4,hkd1x4,hkn5,hkn9,hal⟩
  have hBr:=hB
  replace h0:=h0.below hBr
  replace hb0:=hb0.below hBr
  clear hB; have hB:Below w47.heap.size w47 w47:=Below.refl _ _
  refine hK13 _ _ ?_
  refine SX.qf [(3,(b.term.kind==3))] [.ld [],.ld [0],.ld [],.ld [],.ld [],.ld [0],.ld [],.pk,.ld []] [2,5,6,7] [(.e 7 (.bool ((b.term.kind==3)||(b.term.kind==6))))] [] [] [] [] hR hM hB mix trivial trivial (fun w' hb' hM'=>trivial) (fun w' hb' hM'=>trivial) fun a48 w49 hR hb50 hB hM=>?_
  replace hkn5:=SX.blk_below hkn5 hb50
  replace hkn9:=SX.blk_below hkn9 hb50
  replace hkd1x4:=SX.blk_below hkd1x4 hb50
  refine SX.qf [(3,(b.term.kind==2)),(8,((b.term.kind==2)||(b.term.kind==4)))] [.ld [],.ld [0],.ld [],.ld [],.ld [],.ld [0],.ld [],.pk,.ld [],.ld [],.ld [0],.ld [],.pk,.ld []] [2,5,6,7,8] [(.e 8 (.bool (((b.term.kind==2)||(b.term.kind==4))||(b.term.kind==5))))] [] [] [] [] hR hM hB mix trivial trivial (fun w' hb' hM'=>trivial) (fun w' hb' hM'=>trivial) fun a51 w52 hR hb53 hB hM=>?_
  replace hkn5:=SX.blk_below hkn5 hb53
  replace hkn9:=SX.blk_below hkn9 hb53
  replace hkd1x4:=SX.blk_below hkd1x4 hb53
  refine wp_seq_k fun K54 hK54=>?_
  refine SX.qf [(1,(((b.term.kind==2)||(b.term.kind==4))||(b.term.kind==5))),(8,((((b.term.kind==2)||(b.term.kind==4))||(b.term.kind==5))&&(!(R.has (R.values b) b.term.a)))),(11,(!(((b.term.kind==2)||(b.term.kind==4))||(b.term.kind==5)))),(17,(((((b.term.kind==2)||(b.term.kind==4))||(b.term.kind==5))&&(!(R.has (R.values b) b.term.a)))||((!(((b.term.kind==2)||(b.term.kind==4))||(b.term.kind==5)))&&(b.term.a != 0)))),(20,(!((b.term.kind==3)||(b.term.kind==6)))),(24,(b.term.n != 0)),(32,((((((b.term.kind==2)||(b.term.kind==4))||(b.term.kind==5))&&(!(R.has (R.values b) b.term.a)))||((!(((b.term.kind==2)||(b.term.kind==4))||(b.term.kind==5)))&&(b.term.a != 0)))||((!((b.term.kind==3)||(b.term.kind==6)))&&((b.term.n != 0)||decide (0<(b.term.args.length:Int)))))),(34,((b.term.kind==3)||(b.term.kind==6))),(38,decide (b.term.n<0)),(43,(decide (b.term.n<0)||decide (8≤b.term.n)))] [.ld [],.ld [],.ld [],.ld [],.ld [1],.cl (.bool (R.has (R.values b) b.term.a)),.ld [],.pk,.ld [],.ld [],.ld [],.ld [],.ld [],.ld [1],.ld [],.pk,.pk,.ld [],.ld [],.ld [],.ld [],.ld [],.ld [2],.ld [],.ld [],.ld [],.ld [3],.ld [],.ld [],.pk,.pk,.pk,.ld [],.ld [],.ld [],.ld [],.ld [2],.ld [],.ld [],.ld [],.ld [2],.ld [],.pk,.ld [],.ld [],.ld [3],.ld [],.ld [],.pk,.pk,.pk] [2,5,6,86] [(.e 86 (.bool (((((((b.term.kind==2)||(b.term.kind==4))||(b.term.kind==5))&&(!(R.has (R.values b) b.term.a)))||((!(((b.term.kind==2)||(b.term.kind==4))||(b.term.kind==5)))&&(b.term.a != 0)))||((!((b.term.kind==3)||(b.term.kind==6)))&&((b.term.n != 0)||decide (0<(b.term.args.length:Int)))))||(((b.term.kind==3)||(b.term.kind==6))&&((decide (b.term.n<0)||decide (8≤b.term.n))||decide (4<(b.term.args.length:Int)))))))] [] [] [([(1,true)],71,#[(.slice Al ((R.values b).length) ka),(.I b.term.a)],(.bool (R.has (R.values b) b.term.a)))] [] hR hM hB mix trivial trivial (fun w' hb' hM'=>trivial) (fun w' hb' hM'=>⟨fun hg=>SX.pureC (has_any _ (R.values b) _ _ (hal.below (hB.tr hb'))),trivial⟩) fun a55 w56 hR hb57 hB hM=>?_
  replace hkn5:=SX.blk_below hkn5 hb57
  replace hkn9:=SX.blk_below hkn9 hb57
  replace hkd1x4:=SX.blk_below hkd1x4 hb57
  refine SX.cond_ (((((((b.term.kind==2)||(b.term.kind==4))||(b.term.kind==5))&&(!(R.has (R.values b) b.term.a)))||((!(((b.term.kind==2)||(b.term.kind==4))||(b.term.kind==5)))&&(b.term.a != 0)))||((!((b.term.kind==3)||(b.term.kind==6)))&&((b.term.n != 0)||decide (0<(b.term.args.length:Int)))))||(((b.term.kind==3)||(b.term.kind==6))&&((decide (b.term.n<0)||decide (8≤b.term.n))||decide (4<(b.term.args.length:Int))))) hR (by kernel_rfl) (fun h58=>?_) (fun h58=>?_)
  ·skip
   refine SX.qs [.ld []] [4] [(.e 4 (.bool false))] hR hM hB mix fun a59 w60 hR hb61 hB hM=>?_
   replace hkn5:=SX.blk_below hkn5 hb61
   replace hkn9:=SX.blk_below hkn9 hb61
   replace hkd1x4:=SX.blk_below hkd1x4 hb61
   refine wp_ret ?_
   try simp only [Exit.then,Exit.inBlock,Nat.reduceEqDiff,↓reduceIte]
   refine SX.ret_ 4 (.bool false) Try.results59 hR (by kernel_rfl) ?_
   clear hR hM mix hK1 hzn5 hb4 hkn5 hln5 hn5 hzn9 qn5n9 hb8 hkn9 hln9 hn9 hb12 hK13 hzd1x4 qn5d1x4 qn9d1x4 hkd1x4 hb50 hb53 hK54 hb57 hb61
   replace hB:=hBr.tr hB
   refine ⟨ret_bool ?_,hB⟩
   clear hB
   unfold R.term
   simp only [gt0,lt4] at *
   simp only [h58,↓reduceIte]
  ·skip
   refine wp_skip ?_
   refine hK54 _ _ ?_
   refine wp_seq_k fun K62 hK62=>?_
   refine SX.qs [.ld [],.ld [3],.ld [],.ld []] [2,5,6,88,89,90] [(.e 88 (.slice B2 b.term.args.length j2)),(.e 89 (.I (b.term.args.length:Int))),(.e 90 (.I 0))] hR hM hB mix fun a63 w64 hR hb65 hB hM=>?_
   replace hkn5:=SX.blk_below hkn5 hb65
   replace hkn9:=SX.blk_below hkn9 hb65
   replace hkd1x4:=SX.blk_below hkd1x4 hb65
   refine wp_block ?_
   refine wp_loop_ghost (fun m68 a' w'=>∃ k:Nat,m68=b.term.args.length-k∧k≤b.term.args.length∧SX.RSt 167 [] [(.e 2 (.P n5)),(.e 5 (.P d1x4)),(.e 6 (.slice Al ((R.values b).length) ka)),(.e 88 (.slice B2 b.term.args.length j2)),(.e 89 (.I (b.term.args.length:Int))),(.e 90 (.I (k:Int)))] a'∧Below w47.heap.size w47 w'∧SX.Cells w' [(⟨d1x4,0,none⟩,(.I b.term.kind)),(⟨d1x4,1,none⟩,(.I b.term.a)),(⟨d1x4,2,none⟩,(.I b.term.n)),(⟨d1x4,3,none⟩,(.slice B2 b.term.args.length j2)),(⟨d1x4,4,none⟩,(.I b.term.b0)),(⟨d1x4,5,none⟩,(.slice B3 b.term.args0.length j3)),(⟨d1x4,6,none⟩,(.I b.term.b1)),(⟨d1x4,7,none⟩,(.slice B4 b.term.args1.length j4)),(⟨n9,0,none⟩,(.I b.params)),(⟨n9,1,none⟩,(.slice B1 b.ops.length j1)),(⟨n9,2,none⟩,(.I b.term.kind)),(⟨n9,3,none⟩,(.I b.term.a)),(⟨n9,4,none⟩,(.I b.term.n)),(⟨n9,5,none⟩,(.slice B2 b.term.args.length j2)),(⟨n9,6,none⟩,(.I b.term.b0)),(⟨n9,7,none⟩,(.slice B3 b.term.args0.length j3)),(⟨n9,8,none⟩,(.I b.term.b1)),(⟨n9,9,none⟩,(.slice B4 b.term.args1.length j4)),(⟨n5,0,none⟩,(.I c.params)),(⟨n5,1,none⟩,(.slice A1 c.blocks.length k1)),(⟨n5,2,none⟩,(.slice A2 c.contexts.length k2)),(⟨n5,3,none⟩,(.slice A3 c.objects.length k3))]∧Upto b.term.args (fun _ x=>R.has (R.values b) x) (k)) (b.term.args.length-0) ⟨0,rfl,Nat.zero_le _,hR.keep (ts:=[2,5,6,88,89,90]) (by kernel_rfl),hB,hM,Upto.zero⟩ ?_
   clear hR hM hB
   rintro m68 a66 w67 ⟨k,hm68,hlek,hR,hB,hM,hIk⟩
   refine SX.qs [.ld []] [2,5,6,88,89,90,91] [(.e 91 (.bool (decide ((k:Int)<(b.term.args.length:Int)))))] hR hM hB mix fun a69 w70 hR hb71 hB hM=>?_
   refine wp_seq_k fun K72 hK72=>?_
   refine SX.cond_ (decide ((k:Int)<(b.term.args.length:Int))) hR (by kernel_rfl) (fun h73=>?_) (fun h73=>?_)
   ·skip
    refine wp_skip ?_
    refine hK72 _ _ ?_
    refine wp_seq_k fun K74 hK74=>?_
    refine wp_block ?_
    have hlt:k<b.term.args.length:=lt_of_dec h73
    obtain ⟨y,hy⟩:=get_of_lt hlt
    obtain ⟨iby,ioy,hAy,hiy,ciy⟩:=hb0.2.2.1.elem hy
    subst hAy
    have hoy:iby<w47.heap.size:=World.block_lt_of_cell? w47 _ ciy
    replace hM:=(SX.cells_add (cell_below hB ciy) hM)
    refine SX.qf [] [.ix ⟨iby,ioy+k*1,none⟩,.ld [0],.ld []] [2,5,6,10,88,89,90] [(.e 10 (.I y))] [([],⟨iby,ioy,none⟩,b.term.args.length,(k:Int),1,⟨iby,ioy+k*1,none⟩)] [] [] [] hR hM hB mix ⟨fun hg=>SX.ix_ok (by omega),trivial⟩ trivial (fun w' hb' hM'=>trivial) (fun w' hb' hM'=>trivial) fun a75 w76 hR hb77 hB hM=>?_
    refine SX.qf [] [.ld [],.ld [],.cl (.bool (R.has (R.values b) y)),.ld []] [2,5,6,88,89,90,97] [(.e 97 (.bool (!(R.has (R.values b) y))))] [] [] [([],71,#[(.slice Al ((R.values b).length) ka),(.I y)],(.bool (R.has (R.values b) y)))] [] hR hM hB mix trivial trivial (fun w' hb' hM'=>trivial) (fun w' hb' hM'=>⟨fun hg=>SX.pureC (has_any _ (R.values b) _ _ (hal.below (hB.tr hb'))),trivial⟩) fun a78 w79 hR hb80 hB hM=>?_
    refine SX.cond_ (!(R.has (R.values b) y)) hR (by kernel_rfl) (fun h81=>?_) (fun h81=>?_)
    ·skip
     refine SX.qs [.ld []] [2,4,5,6,88,89,90] [(.e 4 (.bool false))] hR hM hB mix fun a82 w83 hR hb84 hB hM=>?_
     refine wp_ret ?_
     try simp only [Exit.then,Exit.inBlock,Nat.reduceEqDiff,↓reduceIte]
     refine SX.ret_ 4 (.bool false) Try.results59 hR (by kernel_rfl) ?_
     clear hR hM mix hK1 hzn5 hb4 hkn5 hln5 hn5 hzn9 qn5n9 hb8 hkn9 hln9 hn9 hb12 hK13 hzd1x4 qn5d1x4 qn9d1x4 hkd1x4 hb50 hb53 hK54 hb57 hK62 hb65 hm68 hb71 hK72 hK74 hb77 hb80 hb84
     replace hB:=hBr.tr hB
     refine ⟨ret_bool ?_,hB⟩
     clear hB
     unfold R.term
     simp only [gt0,lt4] at *
     simp only [h58,Bool.false_eq_true,↓reduceIte]
     rw [← all_no hy (by simpa using h81)]; rfl
    ·skip
     refine wp_skip ?_
     refine hK74 _ _ ?_
     refine SX.qf0 [] [.nm (.I ((k+1:Nat):Int)),.ld []] [2,5,6,88,89,90] [(.e 90 (.I ((k+1:Nat):Int)))] [] [] [] [([],(.I (IntKind.i64.wrap ((k:Int)+1))),(.I ((k+1:Nat):Int)))] hR hM hB mix trivial ⟨fun hg=>SX.wrap_ok (by omega),trivial⟩ (fun w' hb' hM'=>trivial) (fun w' hb' hM'=>trivial) fun a85 w86 hR hb87 hB hM=>?_
     exact ⟨b.term.args.length-(k+1),by omega,k+1,rfl,by omega,hR.keep (ts:=[2,5,6,88,89,90]) (by kernel_rfl),hB,SX.cells_sub hM [1,2,3,4,5,6,7,8,9,10,11,12,13,14,15,16,17,18,19,20,21,22] (by kernel_rfl),hIk.step hy (by simpa using h81)⟩
   ·skip
    refine wp_exit ?_
    refine hK62 _ _ ?_
    refine wp_seq_k fun K88 hK88=>?_
    have hargs:=hIk.all (le_of_dec h73)
    refine SX.qs [.ld [],.ld [0]] [2,5,6,88,89,90,100] [(.e 100 (.I b.term.kind))] hR hM hB mix fun a89 w90 hR hb91 hB hM=>?_
    refine wp_block ?_
    refine SX.qs [.ld [],.ld []] [2,5,6,88,89,90,100,101] [(.e 101 (.bool (b.term.kind==1)))] hR hM hB mix fun a92 w93 hR hb94 hB hM=>?_
    refine SX.cond_ (b.term.kind==1) hR (by kernel_rfl) (fun h95=>?_) (fun h95=>?_)
    ·skip
     refine SX.qf [(6,(R.edge c b.term.b0 b.term.args0 (R.values b) 0))] [.ld [18,19,20,21],.ld [],.ld [],.ld [4,5],.ld [],.cl (.bool (R.edge c b.term.b0 b.term.args0 (R.values b) 0)),.ld [],.ld [],.ld [],.ld [6,7],.cl (.bool (R.none_ b.term.b1 b.term.args1)),.pk,.ld []] [2,4,5,6,88,89,90] [(.e 4 (.bool ((R.edge c b.term.b0 b.term.args0 (R.values b) 0)&&(R.none_ b.term.b1 b.term.args1))))] [] [] [([],92,#[(.agg #[.I c.params,.slice A1 c.blocks.length k1,.slice A2 c.contexts.length k2,.slice A3 c.objects.length k3]),(.agg #[.I b.term.b0,.slice B3 b.term.args0.length j3]),(.slice Al ((R.values b).length) ka),(.I 0)],(.bool (R.edge c b.term.b0 b.term.args0 (R.values b) 0))),([(6,true)],93,#[(.agg #[.I b.term.b1,.slice B4 b.term.args1.length j4])],(.bool (R.none_ b.term.b1 b.term.args1)))] [] hR hM hB mix trivial trivial (fun w' hb' hM'=>trivial) (fun w' hb' hM'=>⟨fun hg=>edge_any c _ _ _ _ (h0.below (hB.tr hb')) _ _ _ _ _ _ (hb0.2.2.2.1.below (hB.tr hb')) (hal.below (hB.tr hb')) (by omega),fun hg=>none_any _ _ _ _ (hb0.2.2.2.2.below (hB.tr hb')),trivial⟩) fun a96 w97 hR hb98 hB hM=>?_
     refine wp_ret ?_
     try simp only [Exit.then,Exit.inBlock,Nat.reduceEqDiff,↓reduceIte]
     refine SX.ret_ 4 (.bool ((R.edge c b.term.b0 b.term.args0 (R.values b) 0)&&(R.none_ b.term.b1 b.term.args1))) Try.results59 hR (by kernel_rfl) ?_
     clear hR hM mix hK1 hzn5 hb4 hkn5 hln5 hn5 hzn9 qn5n9 hb8 hkn9 hln9 hn9 hb12 hK13 hzd1x4 qn5d1x4 qn9d1x4 hkd1x4 hb50 hb53 hK54 hb57 hK62 hb65 hm68 hb71 hK72 hK88 hb91 hb94 hb98
     replace hB:=hBr.tr hB
     refine ⟨ret_bool ?_,hB⟩
     clear hB
     unfold R.term
     simp only [gt0,lt4] at *
     simp only [h58,Bool.false_eq_true,↓reduceIte]
     rw [← hargs]
     simp only [h58,h95,Bool.not_true,Bool.false_eq_true,↓reduceIte]
     try simp_all
    ·skip
     refine SX.qs [.ld [],.ld []] [2,5,6,88,89,90,100,115] [(.e 115 (.bool (b.term.kind==2)))] hR hM hB mix fun a99 w100 hR hb101 hB hM=>?_
     refine SX.cond_ (b.term.kind==2) hR (by kernel_rfl) (fun h102=>?_) (fun h102=>?_)
     ·skip
      refine SX.qf [(6,(R.edge c b.term.b0 b.term.args0 (R.values b) 0))] [.ld [18,19,20,21],.ld [],.ld [],.ld [4,5],.ld [],.cl (.bool (R.edge c b.term.b0 b.term.args0 (R.values b) 0)),.ld [],.ld [18,19,20,21],.ld [],.ld [],.ld [6,7],.ld [],.cl (.bool (R.edge c b.term.b1 b.term.args1 (R.values b) 0)),.pk,.ld []] [2,4,5,6,88,89,90] [(.e 4 (.bool ((R.edge c b.term.b0 b.term.args0 (R.values b) 0)&&(R.edge c b.term.b1 b.term.args1 (R.values b) 0))))] [] [] [([],92,#[(.agg #[.I c.params,.slice A1 c.blocks.length k1,.slice A2 c.contexts.length k2,.slice A3 c.objects.length k3]),(.agg #[.I b.term.b0,.slice B3 b.term.args0.length j3]),(.slice Al ((R.values b).length) ka),(.I 0)],(.bool (R.edge c b.term.b0 b.term.args0 (R.values b) 0))),([(6,true)],92,#[(.agg #[.I c.params,.slice A1 c.blocks.length k1,.slice A2 c.contexts.length k2,.slice A3 c.objects.length k3]),(.agg #[.I b.term.b1,.slice B4 b.term.args1.length j4]),(.slice Al ((R.values b).length) ka),(.I 0)],(.bool (R.edge c b.term.b1 b.term.args1 (R.values b) 0)))] [] hR hM hB mix trivial trivial (fun w' hb' hM'=>trivial) (fun w' hb' hM'=>⟨fun hg=>edge_any c _ _ _ _ (h0.below (hB.tr hb')) _ _ _ _ _ _ (hb0.2.2.2.1.below (hB.tr hb')) (hal.below (hB.tr hb')) (by omega),fun hg=>edge_any c _ _ _ _ (h0.below (hB.tr hb')) _ _ _ _ _ _ (hb0.2.2.2.2.below (hB.tr hb')) (hal.below (hB.tr hb')) (by omega),trivial⟩) fun a103 w104 hR hb105 hB hM=>?_
      refine wp_ret ?_
      try simp only [Exit.then,Exit.inBlock,Nat.reduceEqDiff,↓reduceIte]
      refine SX.ret_ 4 (.bool ((R.edge c b.term.b0 b.term.args0 (R.values b) 0)&&(R.edge c b.term.b1 b.term.args1 (R.values b) 0))) Try.results59 hR (by kernel_rfl) ?_
      clear hR hM mix hK1 hzn5 hb4 hkn5 hln5 hn5 hzn9 qn5n9 hb8 hkn9 hln9 hn9 hb12 hK13 hzd1x4 qn5d1x4 qn9d1x4 hkd1x4 hb50 hb53 hK54 hb57 hK62 hb65 hm68 hb71 hK72 hK88 hb91 hb94 hb101 hb105
      replace hB:=hBr.tr hB
      refine ⟨ret_bool ?_,hB⟩
      clear hB
      unfold R.term
      simp only [gt0,lt4] at *
      simp only [h58,Bool.false_eq_true,↓reduceIte]
      rw [← hargs]
      simp only [h58,h95,h102,Bool.not_true,Bool.false_eq_true,↓reduceIte]
      try simp_all
     ·skip
      refine SX.qs [.ld [],.ld []] [2,5,6,88,89,90,100,131] [(.e 131 (.bool (b.term.kind==3)))] hR hM hB mix fun a106 w107 hR hb108 hB hM=>?_
      refine SX.cond_ (b.term.kind==3) hR (by kernel_rfl) (fun h109=>?_) (fun h109=>?_)
      ·skip
       refine SX.qf [(6,(R.edge c b.term.b0 b.term.args0 (R.values b) 1)),(11,(R.none_ b.term.b1 b.term.args1))] [.ld [18,19,20,21],.ld [],.ld [],.ld [4,5],.ld [],.cl (.bool (R.edge c b.term.b0 b.term.args0 (R.values b) 1)),.ld [],.ld [],.ld [],.ld [6,7],.cl (.bool (R.none_ b.term.b1 b.term.args1)),.ld [],.ld [18,19,20,21],.ld [],.ld [],.ld [6,7],.ld [],.cl (.bool (R.edge c b.term.b1 b.term.args1 (R.values b) 1)),.pk,.pk,.ld []] [2,4,5,6,88,89,90] [(.e 4 (.bool ((R.edge c b.term.b0 b.term.args0 (R.values b) 1)&&((R.none_ b.term.b1 b.term.args1)||(R.edge c b.term.b1 b.term.args1 (R.values b) 1)))))] [] [] [([],92,#[(.agg #[.I c.params,.slice A1 c.blocks.length k1,.slice A2 c.contexts.length k2,.slice A3 c.objects.length k3]),(.agg #[.I b.term.b0,.slice B3 b.term.args0.length j3]),(.slice Al ((R.values b).length) ka),(.I 1)],(.bool (R.edge c b.term.b0 b.term.args0 (R.values b) 1))),([(6,true)],93,#[(.agg #[.I b.term.b1,.slice B4 b.term.args1.length j4])],(.bool (R.none_ b.term.b1 b.term.args1))),([(11,false),(6,true)],92,#[(.agg #[.I c.params,.slice A1 c.blocks.length k1,.slice A2 c.contexts.length k2,.slice A3 c.objects.length k3]),(.agg #[.I b.term.b1,.slice B4 b.term.args1.length j4]),(.slice Al ((R.values b).length) ka),(.I 1)],(.bool (R.edge c b.term.b1 b.term.args1 (R.values b) 1)))] [] hR hM hB mix trivial trivial (fun w' hb' hM'=>trivial) (fun w' hb' hM'=>⟨fun hg=>edge_any c _ _ _ _ (h0.below (hB.tr hb')) _ _ _ _ _ _ (hb0.2.2.2.1.below (hB.tr hb')) (hal.below (hB.tr hb')) (by omega),fun hg=>none_any _ _ _ _ (hb0.2.2.2.2.below (hB.tr hb')),fun hg=>edge_any c _ _ _ _ (h0.below (hB.tr hb')) _ _ _ _ _ _ (hb0.2.2.2.2.below (hB.tr hb')) (hal.below (hB.tr hb')) (by omega),trivial⟩) fun a110 w111 hR hb112 hB hM=>?_
       refine wp_ret ?_
       try simp only [Exit.then,Exit.inBlock,Nat.reduceEqDiff,↓reduceIte]
       refine SX.ret_ 4 (.bool ((R.edge c b.term.b0 b.term.args0 (R.values b) 1)&&((R.none_ b.term.b1 b.term.args1)||(R.edge c b.term.b1 b.term.args1 (R.values b) 1)))) Try.results59 hR (by kernel_rfl) ?_
       clear hR hM mix hK1 hzn5 hb4 hkn5 hln5 hn5 hzn9 qn5n9 hb8 hkn9 hln9 hn9 hb12 hK13 hzd1x4 qn5d1x4 qn9d1x4 hkd1x4 hb50 hb53 hK54 hb57 hK62 hb65 hm68 hb71 hK72 hK88 hb91 hb94 hb101 hb108 hb112
       replace hB:=hBr.tr hB
       refine ⟨ret_bool ?_,hB⟩
       clear hB
       unfold R.term
       simp only [gt0,lt4] at *
       simp only [h58,Bool.false_eq_true,↓reduceIte]
       rw [← hargs]
       simp only [h58,h95,h102,h109,Bool.not_true,Bool.false_eq_true,↓reduceIte]
       try simp_all
      ·skip
       refine wp_seq_k fun K113 hK113=>?_
       refine SX.qs [.ld [],.ld []] [2,5,6,88,89,90,100,153] [(.e 153 (.bool (b.term.kind==4)))] hR hM hB mix fun a114 w115 hR hb116 hB hM=>?_
       refine SX.cond_ (b.term.kind==4) hR (by kernel_rfl) (fun h117=>?_) (fun h117=>?_)
       ·skip
        refine wp_skip ?_
        refine hK113 _ _ ?_
        refine SX.cond_ (b.term.kind==4) hR (by kernel_rfl) (fun h118=>?_) (fun h118=>nomatch (h117.symm.trans h118))
        refine SX.qf [(4,(R.none_ b.term.b0 b.term.args0))] [.ld [],.ld [],.ld [4,5],.cl (.bool (R.none_ b.term.b0 b.term.args0)),.ld [],.ld [],.ld [],.ld [6,7],.cl (.bool (R.none_ b.term.b1 b.term.args1)),.pk,.ld []] [2,4,5,6,88,89,90] [(.e 4 (.bool ((R.none_ b.term.b0 b.term.args0)&&(R.none_ b.term.b1 b.term.args1))))] [] [] [([],93,#[(.agg #[.I b.term.b0,.slice B3 b.term.args0.length j3])],(.bool (R.none_ b.term.b0 b.term.args0))),([(4,true)],93,#[(.agg #[.I b.term.b1,.slice B4 b.term.args1.length j4])],(.bool (R.none_ b.term.b1 b.term.args1)))] [] hR hM hB mix trivial trivial (fun w' hb' hM'=>trivial) (fun w' hb' hM'=>⟨fun hg=>none_any _ _ _ _ (hb0.2.2.2.1.below (hB.tr hb')),fun hg=>none_any _ _ _ _ (hb0.2.2.2.2.below (hB.tr hb')),trivial⟩) fun a119 w120 hR hb121 hB hM=>?_
        refine wp_ret ?_
        try simp only [Exit.then,Exit.inBlock,Nat.reduceEqDiff,↓reduceIte]
        refine SX.ret_ 4 (.bool ((R.none_ b.term.b0 b.term.args0)&&(R.none_ b.term.b1 b.term.args1))) Try.results59 hR (by kernel_rfl) ?_
        clear hR hM mix hK1 hzn5 hb4 hkn5 hln5 hn5 hzn9 qn5n9 hb8 hkn9 hln9 hn9 hb12 hK13 hzd1x4 qn5d1x4 qn9d1x4 hkd1x4 hb50 hb53 hK54 hb57 hK62 hb65 hm68 hb71 hK72 hK88 hb91 hb94 hb101 hb108 hK113 hb116 hb121
        replace hB:=hBr.tr hB
        refine ⟨ret_bool ?_,hB⟩
        clear hB
        unfold R.term
        simp only [gt0,lt4] at *
        simp only [h58,Bool.false_eq_true,↓reduceIte]
        rw [← hargs]
        simp only [h58,h95,h102,h109,h117,Bool.not_true,Bool.false_eq_true,↓reduceIte]
        try simp_all
       ·skip
        refine SX.qs [.ld [],.ld []] [2,5,6,88,89,90,100,153] [(.e 153 (.bool (b.term.kind==5)))] hR hM hB mix fun a122 w123 hR hb124 hB hM=>?_
        refine SX.cond_ (b.term.kind==5) hR (by kernel_rfl) (fun h125=>?_) (fun h125=>?_)
        ·skip
         refine wp_skip ?_
         refine hK113 _ _ ?_
         refine SX.cond_ (b.term.kind==5) hR (by kernel_rfl) (fun h126=>?_) (fun h126=>nomatch (h125.symm.trans h126))
         refine SX.qf [(4,(R.none_ b.term.b0 b.term.args0))] [.ld [],.ld [],.ld [4,5],.cl (.bool (R.none_ b.term.b0 b.term.args0)),.ld [],.ld [],.ld [],.ld [6,7],.cl (.bool (R.none_ b.term.b1 b.term.args1)),.pk,.ld []] [2,4,5,6,88,89,90] [(.e 4 (.bool ((R.none_ b.term.b0 b.term.args0)&&(R.none_ b.term.b1 b.term.args1))))] [] [] [([],93,#[(.agg #[.I b.term.b0,.slice B3 b.term.args0.length j3])],(.bool (R.none_ b.term.b0 b.term.args0))),([(4,true)],93,#[(.agg #[.I b.term.b1,.slice B4 b.term.args1.length j4])],(.bool (R.none_ b.term.b1 b.term.args1)))] [] hR hM hB mix trivial trivial (fun w' hb' hM'=>trivial) (fun w' hb' hM'=>⟨fun hg=>none_any _ _ _ _ (hb0.2.2.2.1.below (hB.tr hb')),fun hg=>none_any _ _ _ _ (hb0.2.2.2.2.below (hB.tr hb')),trivial⟩) fun a127 w128 hR hb129 hB hM=>?_
         refine wp_ret ?_
         try simp only [Exit.then,Exit.inBlock,Nat.reduceEqDiff,↓reduceIte]
         refine SX.ret_ 4 (.bool ((R.none_ b.term.b0 b.term.args0)&&(R.none_ b.term.b1 b.term.args1))) Try.results59 hR (by kernel_rfl) ?_
         clear hR hM mix hK1 hzn5 hb4 hkn5 hln5 hn5 hzn9 qn5n9 hb8 hkn9 hln9 hn9 hb12 hK13 hzd1x4 qn5d1x4 qn9d1x4 hkd1x4 hb50 hb53 hK54 hb57 hK62 hb65 hm68 hb71 hK72 hK88 hb91 hb94 hb101 hb108 hK113 hb116 hb124 hb129
         replace hB:=hBr.tr hB
         refine ⟨ret_bool ?_,hB⟩
         clear hB
         unfold R.term
         simp only [gt0,lt4] at *
         simp only [h58,Bool.false_eq_true,↓reduceIte]
         rw [← hargs]
         simp only [h58,h95,h102,h109,h117,h125,Bool.not_true,Bool.false_eq_true,↓reduceIte]
         try simp_all
        ·skip
         refine SX.qs0 [.ld [],.ld []] [2,5,6,88,89,90,153] [(.e 153 (.bool (b.term.kind==6)))] hR hM hB mix fun a130 w131 hR hb132 hB hM=>?_
         refine hK113 _ _ ?_
         refine SX.cond_ (b.term.kind==6) hR (by kernel_rfl) (fun h133=>?_) (fun h133=>?_)
         ·skip
          refine SX.qf [(4,(R.none_ b.term.b0 b.term.args0))] [.ld [],.ld [],.ld [4,5],.cl (.bool (R.none_ b.term.b0 b.term.args0)),.ld [],.ld [],.ld [],.ld [6,7],.cl (.bool (R.none_ b.term.b1 b.term.args1)),.pk,.ld []] [2,4,5,6,88,89,90] [(.e 4 (.bool ((R.none_ b.term.b0 b.term.args0)&&(R.none_ b.term.b1 b.term.args1))))] [] [] [([],93,#[(.agg #[.I b.term.b0,.slice B3 b.term.args0.length j3])],(.bool (R.none_ b.term.b0 b.term.args0))),([(4,true)],93,#[(.agg #[.I b.term.b1,.slice B4 b.term.args1.length j4])],(.bool (R.none_ b.term.b1 b.term.args1)))] [] hR hM hB mix trivial trivial (fun w' hb' hM'=>trivial) (fun w' hb' hM'=>⟨fun hg=>none_any _ _ _ _ (hb0.2.2.2.1.below (hB.tr hb')),fun hg=>none_any _ _ _ _ (hb0.2.2.2.2.below (hB.tr hb')),trivial⟩) fun a134 w135 hR hb136 hB hM=>?_
          refine wp_ret ?_
          try simp only [Exit.then,Exit.inBlock,Nat.reduceEqDiff,↓reduceIte]
          refine SX.ret_ 4 (.bool ((R.none_ b.term.b0 b.term.args0)&&(R.none_ b.term.b1 b.term.args1))) Try.results59 hR (by kernel_rfl) ?_
          clear hR hM mix hK1 hzn5 hb4 hkn5 hln5 hn5 hzn9 qn5n9 hb8 hkn9 hln9 hn9 hb12 hK13 hzd1x4 qn5d1x4 qn9d1x4 hkd1x4 hb50 hb53 hK54 hb57 hK62 hb65 hm68 hb71 hK72 hK88 hb91 hb94 hb101 hb108 hK113 hb116 hb124 hb132 hb136
          replace hB:=hBr.tr hB
          refine ⟨ret_bool ?_,hB⟩
          clear hB
          unfold R.term
          simp only [gt0,lt4] at *
          simp only [h58,Bool.false_eq_true,↓reduceIte]
          rw [← hargs]
          simp only [h58,h95,h102,h109,h117,h125,h133,Bool.not_true,Bool.false_eq_true,↓reduceIte]
          try simp_all
         ·skip
          refine wp_skip ?_
          refine hK88 _ _ ?_
          refine SX.qs [.ld []] [2,4,5,6,88,89,90] [(.e 4 (.bool false))] hR hM hB mix fun a137 w138 hR hb139 hB hM=>?_
          refine wp_ret ?_
          try simp only [Exit.then,Exit.inBlock,Nat.reduceEqDiff,↓reduceIte]
          refine SX.ret_ 4 (.bool false) Try.results59 hR (by kernel_rfl) ?_
          clear hR hM mix hK1 hzn5 hb4 hkn5 hln5 hn5 hzn9 qn5n9 hb8 hkn9 hln9 hn9 hb12 hK13 hzd1x4 qn5d1x4 qn9d1x4 hkd1x4 hb50 hb53 hK54 hb57 hK62 hb65 hm68 hb71 hK72 hK88 hb91 hb94 hb101 hb108 hK113 hb116 hb124 hb132 hb139
          replace hB:=hBr.tr hB
          refine ⟨ret_bool ?_,hB⟩
          clear hB
          unfold R.term
          simp only [gt0,lt4] at *
          simp only [h58,Bool.false_eq_true,↓reduceIte]
          rw [← hargs]
          simp only [h58,h95,h102,h109,h117,h125,h133,Bool.not_true,Bool.false_eq_true,↓reduceIte]
          try simp_all
end Go.Proofs.Ytlkcidmmpeebeaa
