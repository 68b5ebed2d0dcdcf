/- Proved: ref06.term -/
import Derived.Test.YtlkcidmmpeebeaaHeads
set_option linter.unusedVariables false
set_option linter.unusedSimpArgs false
namespace Go.Proofs.Ytlkcidmmpeebeaa
open Go.RowKit
set_option maxRecDepth 100000
theorem gt0 (n:Nat):decide ((0:Int)<(n:Int))=decide (0<n):=by rw [Bool.eq_iff_iff]; simp

set_option maxHeartbeats 2000000 in
theorem refTerm_any (c:CodeD) (v1 v2 v3:Value) (w:World) (h:CodeAt w v1 v2 v3 c) (b:BlockD) (u1 u2 u3 u4:Value) (hb:BlkAt w u1 u2 u3 u4 b) (hbp:0≤b.params∧b.params≤999) (hol:b.ops.length≤6000):Calls Try.prog 59 #[(.agg #[.I c.params,v1,v2,v3]),(.agg #[.I b.params,u1,.I b.term.kind,.I b.term.a,.I b.term.n,u2,.I b.term.b0,u3,.I b.term.b1,u4])] w fun e w'=>e=.returned (.bool (R.term c b))∧Below w.heap.size w w':=by
 have h0:=h
 obtain ⟨A1,k1,rfl,s1⟩:=h.2.1.shape
 obtain ⟨A2,k2,rfl,s2⟩:=h.2.2.1.shape
 obtain ⟨A3,k3,rfl,s3⟩:=h.2.2.2.shape
 unfold Shape at s1 s2 s3
 have hb0:=hb
 obtain ⟨B1,j1,rfl,t1⟩:=hb.2.1.shape
 obtain ⟨B2,j2,rfl,t2⟩:=hb.2.2.1.shape
 obtain ⟨B3,j3,rfl,t3⟩:=hb.2.2.2.1.shape
 obtain ⟨B4,j4,rfl,t4⟩:=hb.2.2.2.2.shape
 unfold Shape at t1 t2 t3 t4
 have mix:=mixed
 have hB:Below w.heap.size w w:=Below.refl _ _
 have hM:SX.Cells w []:=SX.cells_nil
 refine SX.enter [(.agg #[.I c.params,.slice A1 c.blocks.length k1,.slice A2 c.contexts.length k2,.slice A3 c.objects.length k3]),(.agg #[.I b.params,.slice B1 b.ops.length j1,.I b.term.kind,.I b.term.a,.I b.term.n,.slice B2 b.term.args.length j2,.I b.term.b0,.slice B3 b.term.args0.length j3,.I b.term.b1,.slice B4 b.term.args1.length j4])] 167 Try.func59 rfl rfl (by kernel_rfl) ?_
 intro a hR
 refine wp_seq_k fun K1 hK1=>?_
 refine SX.region_l ?_
 obtain ⟨n5,hn5⟩:∃ n,w.heap.size=n:=⟨_,rfl⟩
 have hzn5:w.heap.size≤n5:=by have:=hB.size; omega
 refine SX.list_box 0 n5 [(.I c.params),(.slice A1 c.blocks.length k1),(.slice A2 c.contexts.length k2),(.slice A3 c.objects.length k3)] 26 ((.e 2 (.P n5))::[(.e 0 (.agg #[.I c.params,.slice A1 c.blocks.length k1,.slice A2 c.contexts.length k2,.slice A3 c.objects.length k3])),(.e 1 (.agg #[.I b.params,.slice B1 b.ops.length j1,.I b.term.kind,.I b.term.a,.I b.term.n,.slice B2 b.term.args.length j2,.I b.term.b0,.slice B3 b.term.args0.length j3,.I b.term.b1,.slice B4 b.term.args1.length j4]))]) [(⟨n5,0,none⟩,(.I c.params)),(⟨n5,1,none⟩,(.slice A1 c.blocks.length k1)),(⟨n5,2,none⟩,(.slice A2 c.contexts.length k2)),(⟨n5,3,none⟩,(.slice A3 c.objects.length k3))] hR hM hn5 (by kernel_rfl) (by kernel_rfl) ?_
 clear hR hM; intro a2 w3 hR hb4 hM hkn5 hln5
 replace hB:=hB.tr hb4
 replace hR:SX.RSt 167 [] [(.e 1 (.agg #[.I b.params,.slice B1 b.ops.length j1,.I b.term.kind,.I b.term.a,.I b.term.n,.slice B2 b.term.args.length j2,.I b.term.b0,.slice B3 b.term.args0.length j3,.I b.term.b1,.slice B4 b.term.args1.length j4])),(.e 2 (.P n5))] a2:=hR.keep (ts:=[1,2]) (by kernel_rfl)
 obtain ⟨n9,hn9⟩:∃ n,w3.heap.size=n:=⟨_,rfl⟩
 have hzn9:w.heap.size≤n9:=by have:=hB.size; omega
 have qn5n9:n5<n9:=by have:=(Array.getElem?_eq_some_iff.1 hkn5).1; omega
 refine SX.list_box 1 n9 [(.I b.params),(.slice B1 b.ops.length j1),(.I b.term.kind),(.I b.term.a),(.I b.term.n),(.slice B2 b.term.args.length j2),(.I b.term.b0),(.slice B3 b.term.args0.length j3),(.I b.term.b1),(.slice B4 b.term.args1.length j4)] 62 ((.e 3 (.P n9))::[(.e 1 (.agg #[.I b.params,.slice B1 b.ops.length j1,.I b.term.kind,.I b.term.a,.I b.term.n,.slice B2 b.term.args.length j2,.I b.term.b0,.slice B3 b.term.args0.length j3,.I b.term.b1,.slice B4 b.term.args1.length j4])),(.e 2 (.P n5))]) [(⟨n9,0,none⟩,(.I b.params)),(⟨n9,1,none⟩,(.slice B1 b.ops.length j1)),(⟨n9,2,none⟩,(.I b.term.kind)),(⟨n9,3,none⟩,(.I b.term.a)),(⟨n9,4,none⟩,(.I b.term.n)),(⟨n9,5,none⟩,(.slice B2 b.term.args.length j2)),(⟨n9,6,none⟩,(.I b.term.b0)),(⟨n9,7,none⟩,(.slice B3 b.term.args0.length j3)),(⟨n9,8,none⟩,(.I b.term.b1)),(⟨n9,9,none⟩,(.slice B4 b.term.args1.length j4)),(⟨n5,0,none⟩,(.I c.params)),(⟨n5,1,none⟩,(.slice A1 c.blocks.length k1)),(⟨n5,2,none⟩,(.slice A2 c.contexts.length k2)),(⟨n5,3,none⟩,(.slice A3 c.objects.length k3))] hR hM hn9 (by kernel_rfl) (by kernel_rfl) ?_
 clear hR hM; intro a6 w7 hR hb8 hM hkn9 hln9
 replace hB:=hB.tr hb8
 replace hkn5:=SX.blk_below hkn5 hb8
 replace hR:SX.RSt 167 [] [(.e 2 (.P n5)),(.e 3 (.P n9))] a6:=hR.keep (ts:=[2,3]) (by kernel_rfl)
 refine SX.list_q0 (κ:=[]) 2 1 [.ld []] [2,3] [(.e 2 (.P n5)),(.e 3 (.P n9))] hR hM (by kernel_rfl) (by kernel_rfl) ?_
 clear hR hM; intro a10 w11 hR hb12 hM
 replace hB:=hB.tr hb12
 replace hkn5:=SX.blk_below hkn5 hb12
 replace hkn9:=SX.blk_below hkn9 hb12
 refine SX.list_end 3 (by kernel_rfl) ?_
 refine hK1 _ _ ?_
 refine wp_seq_k fun K13 hK13=>?_
 refine SX.region_cut (fun a' w'=>∃ Al:Option Addr,∃ ka:Nat,∃ d1x4:Nat,SX.RSt 167 [] [(.e 2 (.P n5)),(.e 5 (.P d1x4)),(.e 6 (.slice Al ((R.values b).length) ka))] a'∧Below w.heap.size w w'∧SX.Cells w' [(⟨d1x4,0,none⟩,(.I b.term.kind)),(⟨d1x4,1,none⟩,(.I b.term.a)),(⟨d1x4,2,none⟩,(.I b.term.n)),(⟨d1x4,3,none⟩,(.slice B2 b.term.args.length j2)),(⟨d1x4,4,none⟩,(.I b.term.b0)),(⟨d1x4,5,none⟩,(.slice B3 b.term.args0.length j3)),(⟨d1x4,6,none⟩,(.I b.term.b1)),(⟨d1x4,7,none⟩,(.slice B4 b.term.args1.length j4)),(⟨n9,0,none⟩,(.I b.params)),(⟨n9,1,none⟩,(.slice B1 b.ops.length j1)),(⟨n9,2,none⟩,(.I b.term.kind)),(⟨n9,3,none⟩,(.I b.term.a)),(⟨n9,4,none⟩,(.I b.term.n)),(⟨n9,5,none⟩,(.slice B2 b.term.args.length j2)),(⟨n9,6,none⟩,(.I b.term.b0)),(⟨n9,7,none⟩,(.slice B3 b.term.args0.length j3)),(⟨n9,8,none⟩,(.I b.term.b1)),(⟨n9,9,none⟩,(.slice B4 b.term.args1.length j4)),(⟨n5,0,none⟩,(.I c.params)),(⟨n5,1,none⟩,(.slice A1 c.blocks.length k1)),(⟨n5,2,none⟩,(.slice A2 c.contexts.length k2)),(⟨n5,3,none⟩,(.slice A3 c.objects.length k3))]∧w.heap.size≤d1x4∧n5<d1x4∧n9<d1x4∧w'.heap[d1x4]?=some (.cells [(.I b.term.kind),(.I b.term.a),(.I b.term.n),(.slice B2 b.term.args.length j2),(.I b.term.b0),(.slice B3 b.term.args0.length j3),(.I b.term.b1),(.slice B4 b.term.args1.length j4)].toArray 60 (0,0))∧w'.heap[n5]?=some (.cells [(.I c.params),(.slice A1 c.blocks.length k1),(.slice A2 c.contexts.length k2),(.slice A3 c.objects.length k3)].toArray 26 (0,0))∧w'.heap[n9]?=some (.cells [(.I b.params),(.slice B1 b.ops.length j1),(.I b.term.kind),(.I b.term.a),(.I b.term.n),(.slice B2 b.term.args.length j2),(.I b.term.b0),(.slice B3 b.term.args0.length j3),(.I b.term.b1),(.slice B4 b.term.args1.length j4)].toArray 62 (0,0))∧IntsAt w' (.slice Al (R.values b).length ka) (R.values b)) ?_ ?_
 ·skip
  refine SX.any_start (M:=[(⟨n9,0,none⟩,(.I b.params)),(⟨n9,1,none⟩,(.slice B1 b.ops.length j1)),(⟨n9,2,none⟩,(.I b.term.kind)),(⟨n9,3,none⟩,(.I b.term.a)),(⟨n9,4,none⟩,(.I b.term.n)),(⟨n9,5,none⟩,(.slice B2 b.term.args.length j2)),(⟨n9,6,none⟩,(.I b.term.b0)),(⟨n9,7,none⟩,(.slice B3 b.term.args0.length j3)),(⟨n9,8,none⟩,(.I b.term.b1)),(⟨n9,9,none⟩,(.slice B4 b.term.args1.length j4)),(⟨n5,0,none⟩,(.I c.params)),(⟨n5,1,none⟩,(.slice A1 c.blocks.length k1)),(⟨n5,2,none⟩,(.slice A2 c.contexts.length k2)),(⟨n5,3,none⟩,(.slice A3 c.objects.length k3))]) 7 7 (by kernel_rfl) mix (by kernel_rfl) ?_
  intro w15 hb16 hszw15; replace hM:=hM.below hb16
  replace hB:=hB.tr hb16
  replace hkn5:=SX.blk_below hkn5 hb16
  replace hkn9:=SX.blk_below hkn9 hb16
  replace hR:SX.RSt 167 [] [(.e 2 (.P n5)),(.e 3 (.P n9))] _:=hR.keep (ts:=[2,3]) (by kernel_rfl)
  refine SX.any_quiet (κ:=[]) 4 [0,2,1] [.ld [],.ld [0,1,2,3,4,5,6,7,8,9],.ld [2,3,4,5,6,7,8,9]] [(.e 12 (.agg #[.I b.term.kind,.I b.term.a,.I b.term.n,.slice B2 b.term.args.length j2,.I b.term.b0,.slice B3 b.term.args0.length j3,.I b.term.b1,.slice B4 b.term.args1.length j4])),(.e 13 (.agg #[.I b.params,.slice B1 b.ops.length j1,.I b.term.kind,.I b.term.a,.I b.term.n,.slice B2 b.term.args.length j2,.I b.term.b0,.slice B3 b.term.args0.length j3,.I b.term.b1,.slice B4 b.term.args1.length j4])),(.e 11 (.pointer (some ⟨n9,2,none⟩))),(.e 2 (.P n5)),(.e 3 (.P n9))] [] [] [] 7 (by kernel_rfl) hR hM (by kernel_rfl) (by kernel_rfl) (by kernel_rfl) (by kernel_rfl) (by kernel_rfl) trivial trivial (fun w' hM'=>trivial) ?_
  clear hR; intro a17 hR
  refine SX.any_loud 3 [3,4] 4 (by kernel_rfl) (by kernel_rfl) (by kernel_rfl) (by kernel_rfl) (SX.next1_cons ?_ (SX.next1_cons ?_ SX.next1_nil))
  ·skip
   intro K18 hK18
   have hlwn5:=(Array.getElem?_eq_some_iff.1 hkn5).1
   have hlwn9:=(Array.getElem?_eq_some_iff.1 hkn9).1
   refine SX.list_callR 0 14 86 #[(.agg #[.I b.params,.slice B1 b.ops.length j1,.I b.term.kind,.I b.term.a,.I b.term.n,.slice B2 b.term.args.length j2,.I b.term.b0,.slice B3 b.term.args0.length j3,.I b.term.b1,.slice B4 b.term.args1.length j4])] hR (by kernel_rfl) (by kernel_rfl) (values_any _ b _ _ _ _ (hb0.below hB) hbp hol) ?_
   clear hR; intro vd1x3 a19 w20 hR hb21 hphi; replace hM:=hM.below hb21
   replace hB:=hB.tr hb21
   replace hkn5:=SX.blk_below hkn5 hb21
   replace hkn9:=SX.blk_below hkn9 hb21
   obtain ⟨hal,hfr⟩:=hphi
   obtain ⟨Al,ka,rfl,sal⟩:=hal.shape
   have hofn5hal:=Off.of_fresh (p:=(R.values b)≠[]) hfr hlwn5
   have hofn9hal:=Off.of_fresh (p:=(R.values b)≠[]) hfr hlwn9
   refine SX.list_end 1 (by kernel_rfl) ?_
   refine hK18 _ _ (fun _=>hM) ?_
   refine SX.any_loud 2 [4] 3 (by kernel_rfl) (by kernel_rfl) (by kernel_rfl) (by kernel_rfl) (SX.next1_cons ?_ SX.next1_nil)
   ·skip
    intro K22 hK22
    obtain ⟨d1x4,hd1x4⟩:∃ n,w20.heap.size=n:=⟨_,rfl⟩
    have hzd1x4:w.heap.size≤d1x4:=by have:=hB.size; omega
    have hofd1x4hal:=hal.off_new hd1x4
    have qn5d1x4:n5<d1x4:=by have:=(Array.getElem?_eq_some_iff.1 hkn5).1; omega
    have qn9d1x4:n9<d1x4:=by have:=(Array.getElem?_eq_some_iff.1 hkn9).1; omega
    refine SX.list_alloc 0 d1x4 [(.I 0),(.I 0),(.I 0),(.slice none 0 0),(.I 0),(.slice none 0 0),(.I 0),(.slice none 0 0)] 60 [(.e 5 (.P d1x4)),(.e 14 (.slice Al ((R.values b).length) ka)),(.e 12 (.agg #[.I b.term.kind,.I b.term.a,.I b.term.n,.slice B2 b.term.args.length j2,.I b.term.b0,.slice B3 b.term.args0.length j3,.I b.term.b1,.slice B4 b.term.args1.length j4])),(.e 13 (.agg #[.I b.params,.slice B1 b.ops.length j1,.I b.term.kind,.I b.term.a,.I b.term.n,.slice B2 b.term.args.length j2,.I b.term.b0,.slice B3 b.term.args0.length j3,.I b.term.b1,.slice B4 b.term.args1.length j4])),(.e 11 (.pointer (some ⟨n9,2,none⟩))),(.e 2 (.P n5)),(.e 3 (.P n9))] hR hM hd1x4 (by kernel_rfl) ?_
    clear hR hM; intro a23 w24 hR hb25 hM hkd1x4 hld1x4 hned1x4; clear hd1x4
    replace hB:=hB.tr hb25
    replace hal:=hal.below hb25
    replace hkn5:=SX.blk_below hkn5 hb25
    replace hkn9:=SX.blk_below hkn9 hb25
    refine SX.list_end 1 (by kernel_rfl) ?_
    refine hK22 _ _ (fun _=>hM) ?_
    refine SX.any_loud 1 [5] 2 (by kernel_rfl) (by kernel_rfl) (by kernel_rfl) (by kernel_rfl) (SX.next1_cons ?_ SX.next1_nil)
    ·skip
     intro K26 hK26
     refine SX.list_store 0 [(0,(.I b.term.kind)),(1,(.I b.term.a)),(2,(.I b.term.n)),(3,(.slice B2 b.term.args.length j2)),(4,(.I b.term.b0)),(5,(.slice B3 b.term.args0.length j3)),(6,(.I b.term.b1)),(7,(.slice B4 b.term.args1.length j4))] [(.I b.term.kind),(.I b.term.a),(.I b.term.n),(.slice B2 b.term.args.length j2),(.I b.term.b0),(.slice B3 b.term.args0.length j3),(.I b.term.b1),(.slice B4 b.term.args1.length j4)] [(⟨n9,0,none⟩,(.I b.params)),(⟨n9,1,none⟩,(.slice B1 b.ops.length j1)),(⟨n9,2,none⟩,(.I b.term.kind)),(⟨n9,3,none⟩,(.I b.term.a)),(⟨n9,4,none⟩,(.I b.term.n)),(⟨n9,5,none⟩,(.slice B2 b.term.args.length j2)),(⟨n9,6,none⟩,(.I b.term.b0)),(⟨n9,7,none⟩,(.slice B3 b.term.args0.length j3)),(⟨n9,8,none⟩,(.I b.term.b1)),(⟨n9,9,none⟩,(.slice B4 b.term.args1.length j4)),(⟨n5,0,none⟩,(.I c.params)),(⟨n5,1,none⟩,(.slice A1 c.blocks.length k1)),(⟨n5,2,none⟩,(.slice A2 c.contexts.length k2)),(⟨n5,3,none⟩,(.slice A3 c.objects.length k3))] [(⟨d1x4,0,none⟩,(.I b.term.kind)),(⟨d1x4,1,none⟩,(.I b.term.a)),(⟨d1x4,2,none⟩,(.I b.term.n)),(⟨d1x4,3,none⟩,(.slice B2 b.term.args.length j2)),(⟨d1x4,4,none⟩,(.I b.term.b0)),(⟨d1x4,5,none⟩,(.slice B3 b.term.args0.length j3)),(⟨d1x4,6,none⟩,(.I b.term.b1)),(⟨d1x4,7,none⟩,(.slice B4 b.term.args1.length j4)),(⟨n9,0,none⟩,(.I b.params)),(⟨n9,1,none⟩,(.slice B1 b.ops.length j1)),(⟨n9,2,none⟩,(.I b.term.kind)),(⟨n9,3,none⟩,(.I b.term.a)),(⟨n9,4,none⟩,(.I b.term.n)),(⟨n9,5,none⟩,(.slice B2 b.term.args.length j2)),(⟨n9,6,none⟩,(.I b.term.b0)),(⟨n9,7,none⟩,(.slice B3 b.term.args0.length j3)),(⟨n9,8,none⟩,(.I b.term.b1)),(⟨n9,9,none⟩,(.slice B4 b.term.args1.length j4)),(⟨n5,0,none⟩,(.I c.params)),(⟨n5,1,none⟩,(.slice A1 c.blocks.length k1)),(⟨n5,2,none⟩,(.slice A2 c.contexts.length k2)),(⟨n5,3,none⟩,(.slice A3 c.objects.length k3))] hR (SX.cells_sub hM [0,1,2,3,4,5,6,7,8,9,10,11,12,13] (by kernel_rfl)) hned1x4 hkd1x4 (by kernel_rfl) (by kernel_rfl) (by kernel_rfl) ?_
     clear hR hM hkd1x4; intro a27 w28 hR hb29 hM hkd1x4
     replace hB:=hB.trans (hb29.below (by omega))
     replace hal:=hal.but hb29 hofd1x4hal
     replace hkn5:=(hb29.block _ (by omega)).trans hkn5
     replace hkn9:=(hb29.block _ (by omega)).trans hkn9
     have hX:=hM
     replace hM:SX.Cells _ [(⟨n9,0,none⟩,(.I b.params)),(⟨n9,1,none⟩,(.slice B1 b.ops.length j1)),(⟨n9,2,none⟩,(.I b.term.kind)),(⟨n9,3,none⟩,(.I b.term.a)),(⟨n9,4,none⟩,(.I b.term.n)),(⟨n9,5,none⟩,(.slice B2 b.term.args.length j2)),(⟨n9,6,none⟩,(.I b.term.b0)),(⟨n9,7,none⟩,(.slice B3 b.term.args0.length j3)),(⟨n9,8,none⟩,(.I b.term.b1)),(⟨n9,9,none⟩,(.slice B4 b.term.args1.length j4)),(⟨n5,0,none⟩,(.I c.params)),(⟨n5,1,none⟩,(.slice A1 c.blocks.length k1)),(⟨n5,2,none⟩,(.slice A2 c.contexts.length k2)),(⟨n5,3,none⟩,(.slice A3 c.objects.length k3))]:=SX.cells_sub hM [8,9,10,11,12,13,14,15,16,17,18,19,20,21] (by kernel_rfl)
     refine SX.list_end 1 (by kernel_rfl) ?_
     refine hK26 _ _ (fun _=>hM) ?_
     refine SX.any_quiet (κ:=[]) 0 [6] [.ld []] [(.e 6 (.slice Al ((R.values b).length) ka)),(.e 5 (.P d1x4)),(.e 14 (.slice Al ((R.values b).length) ka)),(.e 12 (.agg #[.I b.term.kind,.I b.term.a,.I b.term.n,.slice B2 b.term.args.length j2,.I b.term.b0,.slice B3 b.term.args0.length j3,.I b.term.b1,.slice B4 b.term.args1.length j4])),(.e 13 (.agg #[.I b.params,.slice B1 b.ops.length j1,.I b.term.kind,.I b.term.a,.I b.term.n,.slice B2 b.term.args.length j2,.I b.term.b0,.slice B3 b.term.args0.length j3,.I b.term.b1,.slice B4 b.term.args1.length j4])),(.e 11 (.pointer (some ⟨n9,2,none⟩))),(.e 2 (.P n5)),(.e 3 (.P n9))] [] [] [] 1 (by kernel_rfl) hR hM (by kernel_rfl) (by kernel_rfl) (by kernel_rfl) (by kernel_rfl) (by kernel_rfl) trivial trivial (fun w' hM'=>trivial) ?_
     clear hR; intro a31 hR
     refine SX.any_end (by kernel_rfl) ?_
     exact ⟨Al,ka,d1x4,hR.keep (ts:=[2,5,6]) (by kernel_rfl),hB,SX.cells_sub hX [0,1,2,3,4,5,6,7,8,9,10,11,12,13,14,15,16,17,18,19,20,21] (by kernel_rfl),hzd1x4,qn5d1x4,qn9d1x4,hkd1x4,hkn5,hkn9,hal⟩
  ·skip
   intro K32 hK32
   obtain ⟨d1x4,hd1x4⟩:∃ n,w15.heap.size=n:=⟨_,rfl⟩
   have hzd1x4:w.heap.size≤d1x4:=by have:=hB.size; omega
   have qn5d1x4:n5<d1x4:=by have:=(Array.getElem?_eq_some_iff.1 hkn5).1; omega
   have qn9d1x4:n9<d1x4:=by have:=(Array.getElem?_eq_some_iff.1 hkn9).1; omega
   refine SX.list_alloc 0 d1x4 [(.I 0),(.I 0),(.I 0),(.slice none 0 0),(.I 0),(.slice none 0 0),(.I 0),(.slice none 0 0)] 60 [(.e 5 (.P d1x4)),(.e 12 (.agg #[.I b.term.kind,.I b.term.a,.I b.term.n,.slice B2 b.term.args.length j2,.I b.term.b0,.slice B3 b.term.args0.length j3,.I b.term.b1,.slice B4 b.term.args1.length j4])),(.e 13 (.agg #[.I b.params,.slice B1 b.ops.length j1,.I b.term.kind,.I b.term.a,.I b.term.n,.slice B2 b.term.args.length j2,.I b.term.b0,.slice B3 b.term.args0.length j3,.I b.term.b1,.slice B4 b.term.args1.length j4])),(.e 11 (.pointer (some ⟨n9,2,none⟩))),(.e 2 (.P n5)),(.e 3 (.P n9))] hR hM hd1x4 (by kernel_rfl) ?_
   clear hR hM; intro a33 w34 hR hb35 hM hkd1x4 hld1x4 hned1x4; clear hd1x4
   replace hB:=hB.tr hb35
   replace hkn5:=SX.blk_below hkn5 hb35
   replace hkn9:=SX.blk_below hkn9 hb35
   refine SX.list_end 1 (by kernel_rfl) ?_
   refine hK32 _ _ (fun _=>hM) ?_
   refine SX.any_loud 2 [3] 3 (by kernel_rfl) (by kernel_rfl) (by kernel_rfl) (by kernel_rfl) (SX.next1_cons ?_ SX.next1_nil)
   ·skip
    intro K36 hK36
    have hlwn5:=(Array.getElem?_eq_some_iff.1 hkn5).1
    have hlwn9:=(Array.getElem?_eq_some_iff.1 hkn9).1
    have hlwd1x4:=(Array.getElem?_eq_some_iff.1 hkd1x4).1
    refine SX.list_callR 0 14 86 #[(.agg #[.I b.params,.slice B1 b.ops.length j1,.I b.term.kind,.I b.term.a,.I b.term.n,.slice B2 b.term.args.length j2,.I b.term.b0,.slice B3 b.term.args0.length j3,.I b.term.b1,.slice B4 b.term.args1.length j4])] hR (by kernel_rfl) (by kernel_rfl) (values_any _ b _ _ _ _ (hb0.below hB) hbp hol) ?_
    clear hR; intro vd1x3 a37 w38 hR hb39 hphi; replace hM:=hM.below hb39
    replace hB:=hB.tr hb39
    replace hkn5:=SX.blk_below hkn5 hb39
    replace hkn9:=SX.blk_below hkn9 hb39
    replace hkd1x4:=SX.blk_below hkd1x4 hb39
    obtain ⟨hal,hfr⟩:=hphi
    obtain ⟨Al,ka,rfl,sal⟩:=hal.shape
    have hofn5hal:=Off.of_fresh (p:=(R.values b)≠[]) hfr hlwn5
    have hofn9hal:=Off.of_fresh (p:=(R.values b)≠[]) hfr hlwn9
    have hofd1x4hal:=Off.of_fresh (p:=(R.values b)≠[]) hfr hlwd1x4
    refine SX.list_end 1 (by kernel_rfl) ?_
    refine hK36 _ _ (fun _=>hM) ?_
    refine SX.any_loud 1 [5] 2 (by kernel_rfl) (by kernel_rfl) (by kernel_rfl) (by kernel_rfl) (SX.next1_cons ?_ SX.next1_nil)
    ·skip
     intro K40 hK40
     refine SX.list_store 0 [(0,(.I b.term.kind)),(1,(.I b.term.a)),(2,(.I b.term.n)),(3,(.slice B2 b.term.args.length j2)),(4,(.I b.term.b0)),(5,(.slice B3 b.term.args0.length j3)),(6,(.I b.term.b1)),(7,(.slice B4 b.term.args1.length j4))] [(.I b.term.kind),(.I b.term.a),(.I b.term.n),(.slice B2 b.term.args.length j2),(.I b.term.b0),(.slice B3 b.term.args0.length j3),(.I b.term.b1),(.slice B4 b.term.args1.length j4)] [(⟨n9,0,none⟩,(.I b.params)),(⟨n9,1,none⟩,(.slice B1 b.ops.length j1)),(⟨n9,2,none⟩,(.I b.term.kind)),(⟨n9,3,none⟩,(.I b.term.a)),(⟨n9,4,none⟩,(.I b.term.n)),(⟨n9,5,none⟩,(.slice B2 b.term.args.length j2)),(⟨n9,6,none⟩,(.I b.term.b0)),(⟨n9,7,none⟩,(.slice B3 b.term.args0.length j3)),(⟨n9,8,none⟩,(.I b.term.b1)),(⟨n9,9,none⟩,(.slice B4 b.term.args1.length j4)),(⟨n5,0,none⟩,(.I c.params)),(⟨n5,1,none⟩,(.slice A1 c.blocks.length k1)),(⟨n5,2,none⟩,(.slice A2 c.contexts.length k2)),(⟨n5,3,none⟩,(.slice A3 c.objects.length k3))] [(⟨d1x4,0,none⟩,(.I b.term.kind)),(⟨d1x4,1,none⟩,(.I b.term.a)),(⟨d1x4,2,none⟩,(.I b.term.n)),(⟨d1x4,3,none⟩,(.slice B2 b.term.args.length j2)),(⟨d1x4,4,none⟩,(.I b.term.b0)),(⟨d1x4,5,none⟩,(.slice B3 b.term.args0.length j3)),(⟨d1x4,6,none⟩,(.I b.term.b1)),(⟨d1x4,7,none⟩,(.slice B4 b.term.args1.length j4)),(⟨n9,0,none⟩,(.I b.params)),(⟨n9,1,none⟩,(.slice B1 b.ops.length j1)),(⟨n9,2,none⟩,(.I b.term.kind)),(⟨n9,3,none⟩,(.I b.term.a)),(⟨n9,4,none⟩,(.I b.term.n)),(⟨n9,5,none⟩,(.slice B2 b.term.args.length j2)),(⟨n9,6,none⟩,(.I b.term.b0)),(⟨n9,7,none⟩,(.slice B3 b.term.args0.length j3)),(⟨n9,8,none⟩,(.I b.term.b1)),(⟨n9,9,none⟩,(.slice B4 b.term.args1.length j4)),(⟨n5,0,none⟩,(.I c.params)),(⟨n5,1,none⟩,(.slice A1 c.blocks.length k1)),(⟨n5,2,none⟩,(.slice A2 c.contexts.length k2)),(⟨n5,3,none⟩,(.slice A3 c.objects.length k3))] hR (SX.cells_sub hM [0,1,2,3,4,5,6,7,8,9,10,11,12,13] (by kernel_rfl)) hned1x4 hkd1x4 (by kernel_rfl) (by kernel_rfl) (by kernel_rfl) ?_
     clear hR hM hkd1x4; intro a41 w42 hR hb43 hM hkd1x4
     replace hB:=hB.trans (hb43.below (by omega))
     replace hal:=hal.but hb43 hofd1x4hal
     replace hkn5:=(hb43.block _ (by omega)).trans hkn5
     replace hkn9:=(hb43.block _ (by omega)).trans hkn9
     have hX:=hM
     replace hM:SX.Cells _ [(⟨n9,0,none⟩,(.I b.params)),(⟨n9,1,none⟩,(.slice B1 b.ops.length j1)),(⟨n9,2,none⟩,(.I b.term.kind)),(⟨n9,3,none⟩,(.I b.term.a)),(⟨n9,4,none⟩,(.I b.term.n)),(⟨n9,5,none⟩,(.slice B2 b.term.args.length j2)),(⟨n9,6,none⟩,(.I b.term.b0)),(⟨n9,7,none⟩,(.slice B3 b.term.args0.length j3)),(⟨n9,8,none⟩,(.I b.term.b1)),(⟨n9,9,none⟩,(.slice B4 b.term.args1.length j4)),(⟨n5,0,none⟩,(.I c.params)),(⟨n5,1,none⟩,(.slice A1 c.blocks.length k1)),(⟨n5,2,none⟩,(.slice A2 c.contexts.length k2)),(⟨n5,3,none⟩,(.slice A3 c.objects.length k3))]:=SX.cells_sub hM [8,9,10,11,12,13,14,15,16,17,18,19,20,21] (by kernel_rfl)
     refine SX.list_end 1 (by kernel_rfl) ?_
     refine hK40 _ _ (fun _=>hM) ?_
     refine SX.any_quiet (κ:=[]) 0 [6] [.ld []] [(.e 6 (.slice Al ((R.values b).length) ka)),(.e 14 (.slice Al ((R.values b).length) ka)),(.e 5 (.P d1x4)),(.e 12 (.agg #[.I b.term.kind,.I b.term.a,.I b.term.n,.slice B2 b.term.args.length j2,.I b.term.b0,.slice B3 b.term.args0.length j3,.I b.term.b1,.slice B4 b.term.args1.length j4])),(.e 13 (.agg #[.I b.params,.slice B1 b.ops.length j1,.I b.term.kind,.I b.term.a,.I b.term.n,.slice B2 b.term.args.length j2,.I b.term.b0,.slice B3 b.term.args0.length j3,.I b.term.b1,.slice B4 b.term.args1.length j4])),(.e 11 (.pointer (some ⟨n9,2,none⟩))),(.e 2 (.P n5)),(.e 3 (.P n9))] [] [] [] 1 (by kernel_rfl) hR hM (by kernel_rfl) (by kernel_rfl) (by kernel_rfl) (by kernel_rfl) (by kernel_rfl) trivial trivial (fun w' hM'=>trivial) ?_
     clear hR; intro a45 hR
     refine SX.any_end (by kernel_rfl) ?_
     exact ⟨Al,ka,d1x4,hR.keep (ts:=[2,5,6]) (by kernel_rfl),hB,SX.cells_sub hX [0,1,2,3,4,5,6,7,8,9,10,11,12,13,14,15,16,17,18,19,20,21] (by kernel_rfl),hzd1x4,qn5d1x4,qn9d1x4,hkd1x4,hkn5,hkn9,hal⟩
 ·skip
  clear hR hM hB hkn5 hkn9
  rintro a46 w47 ⟨Al,ka,d1x4,hR,hB,hM,hzd1x4,qn5d1x4,qn9d1x4,hkd1x4,hkn5,hkn9,hal⟩
  have hBr:=hB
  replace h0:=h0.below hBr
  replace hb0:=hb0.below hBr
  clear hB; have hB:Below w47.heap.size w47 w47:=Below.refl _ _
  refine hK13 _ _ ?_
  refine wp_seq_k fun K48 hK48=>?_
  refine SX.region_q [(3,(b.term.kind==3))] [.ld [],.ld [0],.ld [],.ld [],.ld [],.ld [0],.ld [],.pk,.ld []] [2,5,6,7] [(.e 2 (.P n5)),(.e 5 (.P d1x4)),(.e 6 (.slice Al ((R.values b).length) ka)),(.e 7 (.bool ((b.term.kind==3)||(b.term.kind==6))))] [] [] [] [] hR hM mix (by kernel_rfl) (by kernel_rfl) (by kernel_rfl) (by kernel_rfl) trivial trivial (fun w' hb' hM'=>trivial) (fun w' hb' hM'=>trivial) ?_
  clear hR hM; intro a49 w50 hR hb51 hM
  replace hB:=hB.tr hb51
  replace hkn5:=SX.blk_below hkn5 hb51
  replace hkn9:=SX.blk_below hkn9 hb51
  replace hkd1x4:=SX.blk_below hkd1x4 hb51
  refine hK48 _ _ ?_
  refine wp_seq_k fun K52 hK52=>?_
  refine SX.region_q [(3,(b.term.kind==2)),(8,((b.term.kind==2)||(b.term.kind==4)))] [.ld [],.ld [0],.ld [],.ld [],.ld [],.ld [0],.ld [],.pk,.ld [],.ld [],.ld [0],.ld [],.pk,.ld []] [2,5,6,7,8] [(.e 2 (.P n5)),(.e 5 (.P d1x4)),(.e 6 (.slice Al ((R.values b).length) ka)),(.e 7 (.bool ((b.term.kind==3)||(b.term.kind==6)))),(.e 8 (.bool (((b.term.kind==2)||(b.term.kind==4))||(b.term.kind==5))))] [] [] [] [] hR hM mix (by kernel_rfl) (by kernel_rfl) (by kernel_rfl) (by kernel_rfl) trivial trivial (fun w' hb' hM'=>trivial) (fun w' hb' hM'=>trivial) ?_
  clear hR hM; intro a53 w54 hR hb55 hM
  replace hB:=hB.tr hb55
  replace hkn5:=SX.blk_below hkn5 hb55
  replace hkn9:=SX.blk_below hkn9 hb55
  replace hkd1x4:=SX.blk_below hkd1x4 hb55
  refine hK52 _ _ ?_
  refine wp_seq_k fun K56 hK56=>?_
  refine wp_seq_k fun K57 hK57=>?_
  refine SX.region_q [(1,(((b.term.kind==2)||(b.term.kind==4))||(b.term.kind==5))),(8,((((b.term.kind==2)||(b.term.kind==4))||(b.term.kind==5))&&(!(R.has (R.values b) b.term.a)))),(11,(!(((b.term.kind==2)||(b.term.kind==4))||(b.term.kind==5)))),(17,(((((b.term.kind==2)||(b.term.kind==4))||(b.term.kind==5))&&(!(R.has (R.values b) b.term.a)))||((!(((b.term.kind==2)||(b.term.kind==4))||(b.term.kind==5)))&&(b.term.a != 0)))),(20,(!((b.term.kind==3)||(b.term.kind==6)))),(24,(b.term.n != 0)),(32,((((((b.term.kind==2)||(b.term.kind==4))||(b.term.kind==5))&&(!(R.has (R.values b) b.term.a)))||((!(((b.term.kind==2)||(b.term.kind==4))||(b.term.kind==5)))&&(b.term.a != 0)))||((!((b.term.kind==3)||(b.term.kind==6)))&&((b.term.n != 0)||decide (0<((b.term.args.length:Nat):Int)))))),(34,((b.term.kind==3)||(b.term.kind==6))),(38,decide (b.term.n<0)),(43,(decide (b.term.n<0)||decide (8≤b.term.n)))] [.ld [],.ld [],.ld [],.ld [],.ld [1],.cl (.bool (R.has (R.values b) b.term.a)),.ld [],.pk,.ld [],.ld [],.ld [],.ld [],.ld [],.ld [1],.ld [],.pk,.pk,.ld [],.ld [],.ld [],.ld [],.ld [],.ld [2],.ld [],.ld [],.ld [],.ld [3],.ld [],.ld [],.pk,.pk,.pk,.ld [],.ld [],.ld [],.ld [],.ld [2],.ld [],.ld [],.ld [],.ld [2],.ld [],.pk,.ld [],.ld [],.ld [3],.ld [],.ld [],.pk,.pk,.pk] [2,5,6,86] [(.e 2 (.P n5)),(.e 5 (.P d1x4)),(.e 6 (.slice Al ((R.values b).length) ka)),(.e 86 (.bool (((((((b.term.kind==2)||(b.term.kind==4))||(b.term.kind==5))&&(!(R.has (R.values b) b.term.a)))||((!(((b.term.kind==2)||(b.term.kind==4))||(b.term.kind==5)))&&(b.term.a != 0)))||((!((b.term.kind==3)||(b.term.kind==6)))&&((b.term.n != 0)||decide (0<((b.term.args.length:Nat):Int)))))||(((b.term.kind==3)||(b.term.kind==6))&&((decide (b.term.n<0)||decide (8≤b.term.n))||decide (4<((b.term.args.length:Nat):Int)))))))] [] [] [([(1,true)],71,#[(.slice Al ((R.values b).length) ka),(.I b.term.a)],(.bool (R.has (R.values b) b.term.a)))] [] hR hM mix (by kernel_rfl) (by kernel_rfl) (by kernel_rfl) (by kernel_rfl) trivial trivial (fun w' hb' hM'=>trivial) (fun w' hb' hM'=>⟨fun hg=>SX.pureC (has_any _ (R.values b) _ _ (hal.below (hB.tr hb'))),trivial⟩) ?_
  clear hR hM; intro a58 w59 hR hb60 hM
  replace hB:=hB.tr hb60
  replace hkn5:=SX.blk_below hkn5 hb60
  replace hkn9:=SX.blk_below hkn9 hb60
  replace hkd1x4:=SX.blk_below hkd1x4 hb60
  refine hK57 _ _ ?_
  refine SX.cond_ (((((((b.term.kind==2)||(b.term.kind==4))||(b.term.kind==5))&&(!(R.has (R.values b) b.term.a)))||((!(((b.term.kind==2)||(b.term.kind==4))||(b.term.kind==5)))&&(b.term.a != 0)))||((!((b.term.kind==3)||(b.term.kind==6)))&&((b.term.n != 0)||decide (0<((b.term.args.length:Nat):Int)))))||(((b.term.kind==3)||(b.term.kind==6))&&((decide (b.term.n<0)||decide (8≤b.term.n))||decide (4<((b.term.args.length:Nat):Int))))) hR (by kernel_rfl) (fun h61=>?_) (fun h61=>?_)
  ·skip
   refine wp_seq_k fun K62 hK62=>?_
   refine SX.region_q0 [.ld []] [4] [(.e 4 (.bool false))] hR hM mix (by kernel_rfl) (by kernel_rfl) (by kernel_rfl) (by kernel_rfl) ?_
   clear hR hM; intro a63 w64 hR hb65 hM
   replace hB:=hB.tr hb65
   replace hkn5:=SX.blk_below hkn5 hb65
   replace hkn9:=SX.blk_below hkn9 hb65
   replace hkd1x4:=SX.blk_below hkd1x4 hb65
   refine hK62 _ _ ?_
   refine wp_ret ?_
   try simp only [Exit.then,Exit.inBlock,Nat.reduceEqDiff,↓reduceIte]
   refine SX.ret_ 4 (.bool false) Try.results59 hR (by kernel_rfl) ?_
   clear hR hM mix hK1 hzn5 hb4 hkn5 hln5 hn5 hzn9 qn5n9 hb8 hkn9 hln9 hn9 hb12 hK13 hzd1x4 qn5d1x4 qn9d1x4 hkd1x4 hK48 hb51 hK52 hb55 hK56 hK57 hb60 hK62 hb65
   replace hB:=hBr.tr hB
   refine ⟨ret_bool ?_,hB⟩
   clear hB
   unfold R.term
   simp only [gt0,lt4] at *
   simp only [h61,↓reduceIte]
  ·skip
   refine wp_skip ?_
   refine hK56 _ _ ?_
   refine wp_seq_k fun K66 hK66=>?_
   refine wp_seq_k fun K67 hK67=>?_
   refine SX.region_q0 [.ld [],.ld [3],.ld [],.ld []] [2,5,6,88,89,90] [(.e 2 (.P n5)),(.e 5 (.P d1x4)),(.e 6 (.slice Al ((R.values b).length) ka)),(.e 88 (.slice B2 b.term.args.length j2)),(.e 89 (.I ((b.term.args.length:Nat):Int))),(.e 90 (.I 0))] hR hM mix (by kernel_rfl) (by kernel_rfl) (by kernel_rfl) (by kernel_rfl) ?_
   clear hR hM; intro a68 w69 hR hb70 hM
   replace hB:=hB.tr hb70
   replace hkn5:=SX.blk_below hkn5 hb70
   replace hkn9:=SX.blk_below hkn9 hb70
   replace hkd1x4:=SX.blk_below hkd1x4 hb70
   refine hK67 _ _ ?_
   refine wp_block ?_
   refine wp_loop_ghost (fun m73 a' w'=>∃ k:Nat,m73=b.term.args.length-k∧k≤b.term.args.length∧SX.RSt 167 [] [(.e 2 (.P n5)),(.e 5 (.P d1x4)),(.e 6 (.slice Al ((R.values b).length) ka)),(.e 88 (.slice B2 b.term.args.length j2)),(.e 89 (.I ((b.term.args.length:Nat):Int))),(.e 90 (.I ((k:Nat):Int)))] a'∧Below w47.heap.size w47 w'∧SX.Cells w' [(⟨d1x4,0,none⟩,(.I b.term.kind)),(⟨d1x4,1,none⟩,(.I b.term.a)),(⟨d1x4,2,none⟩,(.I b.term.n)),(⟨d1x4,3,none⟩,(.slice B2 b.term.args.length j2)),(⟨d1x4,4,none⟩,(.I b.term.b0)),(⟨d1x4,5,none⟩,(.slice B3 b.term.args0.length j3)),(⟨d1x4,6,none⟩,(.I b.term.b1)),(⟨d1x4,7,none⟩,(.slice B4 b.term.args1.length j4)),(⟨n9,0,none⟩,(.I b.params)),(⟨n9,1,none⟩,(.slice B1 b.ops.length j1)),(⟨n9,2,none⟩,(.I b.term.kind)),(⟨n9,3,none⟩,(.I b.term.a)),(⟨n9,4,none⟩,(.I b.term.n)),(⟨n9,5,none⟩,(.slice B2 b.term.args.length j2)),(⟨n9,6,none⟩,(.I b.term.b0)),(⟨n9,7,none⟩,(.slice B3 b.term.args0.length j3)),(⟨n9,8,none⟩,(.I b.term.b1)),(⟨n9,9,none⟩,(.slice B4 b.term.args1.length j4)),(⟨n5,0,none⟩,(.I c.params)),(⟨n5,1,none⟩,(.slice A1 c.blocks.length k1)),(⟨n5,2,none⟩,(.slice A2 c.contexts.length k2)),(⟨n5,3,none⟩,(.slice A3 c.objects.length k3))]∧Upto b.term.args (fun _ x=>R.has (R.values b) x) (k)) (b.term.args.length-0) ⟨0,rfl,Nat.zero_le _,hR.keep (ts:=[2,5,6,88,89,90]) (by kernel_rfl),hB,hM,Upto.zero⟩ ?_
   clear hR hM hB
   rintro m73 a71 w72 ⟨k,hm73,hlek,hR,hB,hM,hIk⟩
   refine wp_seq_k fun K74 hK74=>?_
   refine SX.region_q0 [.ld []] [2,5,6,88,89,90,91] [(.e 2 (.P n5)),(.e 5 (.P d1x4)),(.e 6 (.slice Al ((R.values b).length) ka)),(.e 88 (.slice B2 b.term.args.length j2)),(.e 89 (.I ((b.term.args.length:Nat):Int))),(.e 90 (.I ((k:Nat):Int))),(.e 91 (.bool (decide (((k:Nat):Int)<((b.term.args.length:Nat):Int)))))] hR hM mix (by kernel_rfl) (by kernel_rfl) (by kernel_rfl) (by kernel_rfl) ?_
   clear hR hM; intro a75 w76 hR hb77 hM
   replace hB:=hB.tr hb77
   refine hK74 _ _ ?_
   refine wp_seq_k fun K78 hK78=>?_
   refine SX.cond_ (decide (((k:Nat):Int)<((b.term.args.length:Nat):Int))) hR (by kernel_rfl) (fun h79=>?_) (fun h79=>?_)
   ·skip
    refine wp_skip ?_
    refine hK78 _ _ ?_
    refine wp_seq_k fun K80 hK80=>?_
    refine wp_block ?_
    refine wp_seq_k fun K81 hK81=>?_
    have hlt:k<b.term.args.length:=lt_of_dec h79
    obtain ⟨y,hy⟩:=get_of_lt hlt
    obtain ⟨iby,ioy,hAy,hiy,ciy⟩:=hb0.2.2.1.elem hy
    subst hAy
    have hoy:iby<w47.heap.size:=World.block_lt_of_cell? w47 _ ciy
    replace hM:=(SX.cells_add (cell_below hB ciy) hM)
    refine SX.region_q [] [.ix ⟨iby,ioy+k*1,none⟩,.ld [0],.ld []] [2,5,6,10,88,89,90] [(.e 2 (.P n5)),(.e 5 (.P d1x4)),(.e 6 (.slice Al ((R.values b).length) ka)),(.e 10 (.I y)),(.e 88 (.slice (some ⟨iby,ioy,none⟩) b.term.args.length j2)),(.e 89 (.I ((b.term.args.length:Nat):Int))),(.e 90 (.I ((k:Nat):Int)))] [([],⟨iby,ioy,none⟩,b.term.args.length,((k:Nat):Int),1,⟨iby,ioy+k*1,none⟩)] [] [] [] hR hM mix (by kernel_rfl) (by kernel_rfl) (by kernel_rfl) (by kernel_rfl) ⟨fun hg=>SX.ix_ok (by omega),trivial⟩ trivial (fun w' hb' hM'=>trivial) (fun w' hb' hM'=>trivial) ?_
    clear hR hM; intro a82 w83 hR hb84 hM
    replace hB:=hB.tr hb84
    refine hK81 _ _ ?_
    refine wp_seq_k fun K85 hK85=>?_
    refine SX.region_q [] [.ld [],.ld [],.cl (.bool (R.has (R.values b) y)),.ld []] [2,5,6,88,89,90,97] [(.e 2 (.P n5)),(.e 5 (.P d1x4)),(.e 6 (.slice Al ((R.values b).length) ka)),(.e 88 (.slice (some ⟨iby,ioy,none⟩) b.term.args.length j2)),(.e 89 (.I ((b.term.args.length:Nat):Int))),(.e 90 (.I ((k:Nat):Int))),(.e 97 (.bool (!(R.has (R.values b) y))))] [] [] [([],71,#[(.slice Al ((R.values b).length) ka),(.I y)],(.bool (R.has (R.values b) y)))] [] hR hM mix (by kernel_rfl) (by kernel_rfl) (by kernel_rfl) (by kernel_rfl) trivial trivial (fun w' hb' hM'=>trivial) (fun w' hb' hM'=>⟨fun hg=>SX.pureC (has_any _ (R.values b) _ _ (hal.below (hB.tr hb'))),trivial⟩) ?_
    clear hR hM; intro a86 w87 hR hb88 hM
    replace hB:=hB.tr hb88
    refine hK85 _ _ ?_
    refine SX.cond_ (!(R.has (R.values b) y)) hR (by kernel_rfl) (fun h89=>?_) (fun h89=>?_)
    ·skip
     refine wp_seq_k fun K90 hK90=>?_
     refine SX.region_q0 [.ld []] [2,4,5,6,88,89,90] [(.e 2 (.P n5)),(.e 4 (.bool false)),(.e 5 (.P d1x4)),(.e 6 (.slice Al ((R.values b).length) ka)),(.e 88 (.slice (some ⟨iby,ioy,none⟩) b.term.args.length j2)),(.e 89 (.I ((b.term.args.length:Nat):Int))),(.e 90 (.I ((k:Nat):Int)))] hR hM mix (by kernel_rfl) (by kernel_rfl) (by kernel_rfl) (by kernel_rfl) ?_
     clear hR hM; intro a91 w92 hR hb93 hM
     replace hB:=hB.tr hb93
     refine hK90 _ _ ?_
     refine wp_ret ?_
     try simp only [Exit.then,Exit.inBlock,Nat.reduceEqDiff,↓reduceIte]
     refine SX.ret_ 4 (.bool false) Try.results59 hR (by kernel_rfl) ?_
     clear hR hM mix hK1 hzn5 hb4 hkn5 hln5 hn5 hzn9 qn5n9 hb8 hkn9 hln9 hn9 hb12 hK13 hzd1x4 qn5d1x4 qn9d1x4 hkd1x4 hK48 hb51 hK52 hb55 hK56 hK57 hb60 hK66 hK67 hb70 hm73 hK74 hb77 hK78 hK80 hK81 hb84 hK85 hb88 hK90 hb93
     replace hB:=hBr.tr hB
     refine ⟨ret_bool ?_,hB⟩
     clear hB
     unfold R.term
     simp only [gt0,lt4] at *
     simp only [h61,Bool.false_eq_true,↓reduceIte]
     rw [← all_no hy (by simpa using h89)]; rfl
    ·skip
     refine wp_skip ?_
     refine hK80 _ _ ?_
     refine SX.region_q [] [.nm (.I ((k+1:Nat):Int)),.ld []] [2,5,6,88,89,90] [(.e 2 (.P n5)),(.e 5 (.P d1x4)),(.e 6 (.slice Al ((R.values b).length) ka)),(.e 88 (.slice (some ⟨iby,ioy,none⟩) b.term.args.length j2)),(.e 89 (.I ((b.term.args.length:Nat):Int))),(.e 90 (.I ((k+1:Nat):Int)))] [] [] [] [([],(.I (IntKind.i64.wrap (((k:Nat):Int)+1))),(.I ((k+1:Nat):Int)))] hR hM mix (by kernel_rfl) (by kernel_rfl) (by kernel_rfl) (by kernel_rfl) trivial ⟨fun hg=>SX.wrap_ok (by omega),trivial⟩ (fun w' hb' hM'=>trivial) (fun w' hb' hM'=>trivial) ?_
     clear hR hM; intro a94 w95 hR hb96 hM
     replace hB:=hB.tr hb96
     exact ⟨b.term.args.length-(k+1),by omega,k+1,rfl,by omega,hR.keep (ts:=[2,5,6,88,89,90]) (by kernel_rfl),hB,SX.cells_sub hM [1,2,3,4,5,6,7,8,9,10,11,12,13,14,15,16,17,18,19,20,21,22] (by kernel_rfl),hIk.step hy (by simpa using h89)⟩
   ·skip
    refine wp_exit ?_
    refine hK66 _ _ ?_
    refine wp_seq_k fun K97 hK97=>?_
    refine wp_seq_k fun K98 hK98=>?_
    have hargs:=hIk.all (le_of_dec h79)
    refine SX.region_q0 [.ld [],.ld [0]] [2,5,6,88,89,90,100] [(.e 2 (.P n5)),(.e 5 (.P d1x4)),(.e 6 (.slice Al ((R.values b).length) ka)),(.e 88 (.slice B2 b.term.args.length j2)),(.e 89 (.I ((b.term.args.length:Nat):Int))),(.e 90 (.I ((k:Nat):Int))),(.e 100 (.I b.term.kind))] hR hM mix (by kernel_rfl) (by kernel_rfl) (by kernel_rfl) (by kernel_rfl) ?_
    clear hR hM; intro a99 w100 hR hb101 hM
    replace hB:=hB.tr hb101
    refine hK98 _ _ ?_
    refine wp_block ?_
    refine wp_seq_k fun K102 hK102=>?_
    refine SX.region_q0 [.ld [],.ld []] [2,5,6,88,89,90,100,101] [(.e 2 (.P n5)),(.e 5 (.P d1x4)),(.e 6 (.slice Al ((R.values b).length) ka)),(.e 88 (.slice B2 b.term.args.length j2)),(.e 89 (.I ((b.term.args.length:Nat):Int))),(.e 90 (.I ((k:Nat):Int))),(.e 100 (.I b.term.kind)),(.e 101 (.bool (b.term.kind==1)))] hR hM mix (by kernel_rfl) (by kernel_rfl) (by kernel_rfl) (by kernel_rfl) ?_
    clear hR hM; intro a103 w104 hR hb105 hM
    replace hB:=hB.tr hb105
    refine hK102 _ _ ?_
    refine SX.cond_ (b.term.kind==1) hR (by kernel_rfl) (fun h106=>?_) (fun h106=>?_)
    ·skip
     refine wp_seq_k fun K107 hK107=>?_
     refine SX.region_q [(6,(R.edge c b.term.b0 b.term.args0 (R.values b) 0))] [.ld [18,19,20,21],.ld [],.ld [],.ld [4,5],.ld [],.cl (.bool (R.edge c b.term.b0 b.term.args0 (R.values b) 0)),.ld [],.ld [],.ld [],.ld [6,7],.cl (.bool (R.none_ b.term.b1 b.term.args1)),.pk,.ld []] [2,4,5,6,88,89,90] [(.e 2 (.P n5)),(.e 4 (.bool ((R.edge c b.term.b0 b.term.args0 (R.values b) 0)&&(R.none_ b.term.b1 b.term.args1)))),(.e 5 (.P d1x4)),(.e 6 (.slice Al ((R.values b).length) ka)),(.e 88 (.slice B2 b.term.args.length j2)),(.e 89 (.I ((b.term.args.length:Nat):Int))),(.e 90 (.I ((k:Nat):Int)))] [] [] [([],92,#[(.agg #[.I c.params,.slice A1 c.blocks.length k1,.slice A2 c.contexts.length k2,.slice A3 c.objects.length k3]),(.agg #[.I b.term.b0,.slice B3 b.term.args0.length j3]),(.slice Al ((R.values b).length) ka),(.I 0)],(.bool (R.edge c b.term.b0 b.term.args0 (R.values b) 0))),([(6,true)],93,#[(.agg #[.I b.term.b1,.slice B4 b.term.args1.length j4])],(.bool (R.none_ b.term.b1 b.term.args1)))] [] hR hM mix (by kernel_rfl) (by kernel_rfl) (by kernel_rfl) (by kernel_rfl) trivial trivial (fun w' hb' hM'=>trivial) (fun w' hb' hM'=>⟨fun hg=>edge_any c _ _ _ _ (h0.below (hB.tr hb')) _ _ _ _ _ _ (hb0.2.2.2.1.below (hB.tr hb')) (hal.below (hB.tr hb')) (by omega),fun hg=>none_any _ _ _ _ (hb0.2.2.2.2.below (hB.tr hb')),trivial⟩) ?_
     clear hR hM; intro a108 w109 hR hb110 hM
     replace hB:=hB.tr hb110
     refine hK107 _ _ ?_
     refine wp_ret ?_
     try simp only [Exit.then,Exit.inBlock,Nat.reduceEqDiff,↓reduceIte]
     refine SX.ret_ 4 (.bool ((R.edge c b.term.b0 b.term.args0 (R.values b) 0)&&(R.none_ b.term.b1 b.term.args1))) Try.results59 hR (by kernel_rfl) ?_
     clear hR hM mix hK1 hzn5 hb4 hkn5 hln5 hn5 hzn9 qn5n9 hb8 hkn9 hln9 hn9 hb12 hK13 hzd1x4 qn5d1x4 qn9d1x4 hkd1x4 hK48 hb51 hK52 hb55 hK56 hK57 hb60 hK66 hK67 hb70 hm73 hK74 hb77 hK78 hK97 hK98 hb101 hK102 hb105 hK107 hb110
     replace hB:=hBr.tr hB
     refine ⟨ret_bool ?_,hB⟩
     clear hB
     unfold R.term
     simp only [gt0,lt4] at *
     simp only [h61,Bool.false_eq_true,↓reduceIte]
     rw [← hargs]
     simp only [h61,h106,Bool.not_true,Bool.false_eq_true,↓reduceIte]
     try simp_all
    ·skip
     refine wp_seq_k fun K111 hK111=>?_
     refine SX.region_q0 [.ld [],.ld []] [2,5,6,88,89,90,100,115] [(.e 2 (.P n5)),(.e 5 (.P d1x4)),(.e 6 (.slice Al ((R.values b).length) ka)),(.e 88 (.slice B2 b.term.args.length j2)),(.e 89 (.I ((b.term.args.length:Nat):Int))),(.e 90 (.I ((k:Nat):Int))),(.e 100 (.I b.term.kind)),(.e 115 (.bool (b.term.kind==2)))] hR hM mix (by kernel_rfl) (by kernel_rfl) (by kernel_rfl) (by kernel_rfl) ?_
     clear hR hM; intro a112 w113 hR hb114 hM
     replace hB:=hB.tr hb114
     refine hK111 _ _ ?_
     refine SX.cond_ (b.term.kind==2) hR (by kernel_rfl) (fun h115=>?_) (fun h115=>?_)
     ·skip
      refine wp_seq_k fun K116 hK116=>?_
      refine SX.region_q [(6,(R.edge c b.term.b0 b.term.args0 (R.values b) 0))] [.ld [18,19,20,21],.ld [],.ld [],.ld [4,5],.ld [],.cl (.bool (R.edge c b.term.b0 b.term.args0 (R.values b) 0)),.ld [],.ld [18,19,20,21],.ld [],.ld [],.ld [6,7],.ld [],.cl (.bool (R.edge c b.term.b1 b.term.args1 (R.values b) 0)),.pk,.ld []] [2,4,5,6,88,89,90] [(.e 2 (.P n5)),(.e 4 (.bool ((R.edge c b.term.b0 b.term.args0 (R.values b) 0)&&(R.edge c b.term.b1 b.term.args1 (R.values b) 0)))),(.e 5 (.P d1x4)),(.e 6 (.slice Al ((R.values b).length) ka)),(.e 88 (.slice B2 b.term.args.length j2)),(.e 89 (.I ((b.term.args.length:Nat):Int))),(.e 90 (.I ((k:Nat):Int)))] [] [] [([],92,#[(.agg #[.I c.params,.slice A1 c.blocks.length k1,.slice A2 c.contexts.length k2,.slice A3 c.objects.length k3]),(.agg #[.I b.term.b0,.slice B3 b.term.args0.length j3]),(.slice Al ((R.values b).length) ka),(.I 0)],(.bool (R.edge c b.term.b0 b.term.args0 (R.values b) 0))),([(6,true)],92,#[(.agg #[.I c.params,.slice A1 c.blocks.length k1,.slice A2 c.contexts.length k2,.slice A3 c.objects.length k3]),(.agg #[.I b.term.b1,.slice B4 b.term.args1.length j4]),(.slice Al ((R.values b).length) ka),(.I 0)],(.bool (R.edge c b.term.b1 b.term.args1 (R.values b) 0)))] [] hR hM mix (by kernel_rfl) (by kernel_rfl) (by kernel_rfl) (by kernel_rfl) trivial trivial (fun w' hb' hM'=>trivial) (fun w' hb' hM'=>⟨fun hg=>edge_any c _ _ _ _ (h0.below (hB.tr hb')) _ _ _ _ _ _ (hb0.2.2.2.1.below (hB.tr hb')) (hal.below (hB.tr hb')) (by omega),fun hg=>edge_any c _ _ _ _ (h0.below (hB.tr hb')) _ _ _ _ _ _ (hb0.2.2.2.2.below (hB.tr hb')) (hal.below (hB.tr hb')) (by omega),trivial⟩) ?_
      clear hR hM; intro a117 w118 hR hb119 hM
      replace hB:=hB.tr hb119
      refine hK116 _ _ ?_
      refine wp_ret ?_
      try simp only [Exit.then,Exit.inBlock,Nat.reduceEqDiff,↓reduceIte]
      refine SX.ret_ 4 (.bool ((R.edge c b.term.b0 b.term.args0 (R.values b) 0)&&(R.edge c b.term.b1 b.term.args1 (R.values b) 0))) Try.results59 hR (by kernel_rfl) ?_
      clear hR hM mix hK1 hzn5 hb4 hkn5 hln5 hn5 hzn9 qn5n9 hb8 hkn9 hln9 hn9 hb12 hK13 hzd1x4 qn5d1x4 qn9d1x4 hkd1x4 hK48 hb51 hK52 hb55 hK56 hK57 hb60 hK66 hK67 hb70 hm73 hK74 hb77 hK78 hK97 hK98 hb101 hK102 hb105 hK111 hb114 hK116 hb119
      replace hB:=hBr.tr hB
      refine ⟨ret_bool ?_,hB⟩
      clear hB
      unfold R.term
      simp only [gt0,lt4] at *
      simp only [h61,Bool.false_eq_true,↓reduceIte]
      rw [← hargs]
      simp only [h61,h106,h115,Bool.not_true,Bool.false_eq_true,↓reduceIte]
      try simp_all
     ·skip
      refine wp_seq_k fun K120 hK120=>?_
      refine SX.region_q0 [.ld [],.ld []] [2,5,6,88,89,90,100,131] [(.e 2 (.P n5)),(.e 5 (.P d1x4)),(.e 6 (.slice Al ((R.values b).length) ka)),(.e 88 (.slice B2 b.term.args.length j2)),(.e 89 (.I ((b.term.args.length:Nat):Int))),(.e 90 (.I ((k:Nat):Int))),(.e 100 (.I b.term.kind)),(.e 131 (.bool (b.term.kind==3)))] hR hM mix (by kernel_rfl) (by kernel_rfl) (by kernel_rfl) (by kernel_rfl) ?_
      clear hR hM; intro a121 w122 hR hb123 hM
      replace hB:=hB.tr hb123
      refine hK120 _ _ ?_
      refine SX.cond_ (b.term.kind==3) hR (by kernel_rfl) (fun h124=>?_) (fun h124=>?_)
      ·skip
       refine wp_seq_k fun K125 hK125=>?_
       refine SX.region_q [(6,(R.edge c b.term.b0 b.term.args0 (R.values b) 1)),(11,(R.none_ b.term.b1 b.term.args1))] [.ld [18,19,20,21],.ld [],.ld [],.ld [4,5],.ld [],.cl (.bool (R.edge c b.term.b0 b.term.args0 (R.values b) 1)),.ld [],.ld [],.ld [],.ld [6,7],.cl (.bool (R.none_ b.term.b1 b.term.args1)),.ld [],.ld [18,19,20,21],.ld [],.ld [],.ld [6,7],.ld [],.cl (.bool (R.edge c b.term.b1 b.term.args1 (R.values b) 1)),.pk,.pk,.ld []] [2,4,5,6,88,89,90] [(.e 2 (.P n5)),(.e 4 (.bool ((R.edge c b.term.b0 b.term.args0 (R.values b) 1)&&((R.none_ b.term.b1 b.term.args1)||(R.edge c b.term.b1 b.term.args1 (R.values b) 1))))),(.e 5 (.P d1x4)),(.e 6 (.slice Al ((R.values b).length) ka)),(.e 88 (.slice B2 b.term.args.length j2)),(.e 89 (.I ((b.term.args.length:Nat):Int))),(.e 90 (.I ((k:Nat):Int)))] [] [] [([],92,#[(.agg #[.I c.params,.slice A1 c.blocks.length k1,.slice A2 c.contexts.length k2,.slice A3 c.objects.length k3]),(.agg #[.I b.term.b0,.slice B3 b.term.args0.length j3]),(.slice Al ((R.values b).length) ka),(.I 1)],(.bool (R.edge c b.term.b0 b.term.args0 (R.values b) 1))),([(6,true)],93,#[(.agg #[.I b.term.b1,.slice B4 b.term.args1.length j4])],(.bool (R.none_ b.term.b1 b.term.args1))),([(11,false),(6,true)],92,#[(.agg #[.I c.params,.slice A1 c.blocks.length k1,.slice A2 c.contexts.length k2,.slice A3 c.objects.length k3]),(.agg #[.I b.term.b1,.slice B4 b.term.args1.length j4]),(.slice Al ((R.values b).length) ka),(.I 1)],(.bool (R.edge c b.term.b1 b.term.args1 (R.values b) 1)))] [] hR hM mix (by kernel_rfl) (by kernel_rfl) (by kernel_rfl) (by kernel_rfl) trivial trivial (fun w' hb' hM'=>trivial) (fun w' hb' hM'=>⟨fun hg=>edge_any c _ _ _ _ (h0.below (hB.tr hb')) _ _ _ _ _ _ (hb0.2.2.2.1.below (hB.tr hb')) (hal.below (hB.tr hb')) (by omega),fun hg=>none_any _ _ _ _ (hb0.2.2.2.2.below (hB.tr hb')),fun hg=>edge_any c _ _ _ _ (h0.below (hB.tr hb')) _ _ _ _ _ _ (hb0.2.2.2.2.below (hB.tr hb')) (hal.below (hB.tr hb')) (by omega),trivial⟩) ?_
       clear hR hM; intro a126 w127 hR hb128 hM
       replace hB:=hB.tr hb128
       refine hK125 _ _ ?_
       refine wp_ret ?_
       try simp only [Exit.then,Exit.inBlock,Nat.reduceEqDiff,↓reduceIte]
       refine SX.ret_ 4 (.bool ((R.edge c b.term.b0 b.term.args0 (R.values b) 1)&&((R.none_ b.term.b1 b.term.args1)||(R.edge c b.term.b1 b.term.args1 (R.values b) 1)))) Try.results59 hR (by kernel_rfl) ?_
       clear hR hM mix hK1 hzn5 hb4 hkn5 hln5 hn5 hzn9 qn5n9 hb8 hkn9 hln9 hn9 hb12 hK13 hzd1x4 qn5d1x4 qn9d1x4 hkd1x4 hK48 hb51 hK52 hb55 hK56 hK57 hb60 hK66 hK67 hb70 hm73 hK74 hb77 hK78 hK97 hK98 hb101 hK102 hb105 hK111 hb114 hK120 hb123 hK125 hb128
       replace hB:=hBr.tr hB
       refine ⟨ret_bool ?_,hB⟩
       clear hB
       unfold R.term
       simp only [gt0,lt4] at *
       simp only [h61,Bool.false_eq_true,↓reduceIte]
       rw [← hargs]
       simp only [h61,h106,h115,h124,Bool.not_true,Bool.false_eq_true,↓reduceIte]
       try simp_all
      ·skip
       refine wp_seq_k fun K129 hK129=>?_
       refine wp_seq_k fun K130 hK130=>?_
       refine SX.region_q0 [.ld [],.ld []] [2,5,6,88,89,90,100,153] [(.e 2 (.P n5)),(.e 5 (.P d1x4)),(.e 6 (.slice Al ((R.values b).length) ka)),(.e 88 (.slice B2 b.term.args.length j2)),(.e 89 (.I ((b.term.args.length:Nat):Int))),(.e 90 (.I ((k:Nat):Int))),(.e 100 (.I b.term.kind)),(.e 153 (.bool (b.term.kind==4)))] hR hM mix (by kernel_rfl) (by kernel_rfl) (by kernel_rfl) (by kernel_rfl) ?_
       clear hR hM; intro a131 w132 hR hb133 hM
       replace hB:=hB.tr hb133
       refine hK130 _ _ ?_
       refine SX.cond_ (b.term.kind==4) hR (by kernel_rfl) (fun h134=>?_) (fun h134=>?_)
       ·skip
        refine wp_skip ?_
        refine hK129 _ _ ?_
        refine SX.cond_ (b.term.kind==4) hR (by kernel_rfl) (fun h135=>?_) (fun h135=>nomatch (h134.symm.trans h135))
        refine wp_seq_k fun K136 hK136=>?_
        refine SX.region_q [(4,(R.none_ b.term.b0 b.term.args0))] [.ld [],.ld [],.ld [4,5],.cl (.bool (R.none_ b.term.b0 b.term.args0)),.ld [],.ld [],.ld [],.ld [6,7],.cl (.bool (R.none_ b.term.b1 b.term.args1)),.pk,.ld []] [2,4,5,6,88,89,90] [(.e 2 (.P n5)),(.e 4 (.bool ((R.none_ b.term.b0 b.term.args0)&&(R.none_ b.term.b1 b.term.args1)))),(.e 5 (.P d1x4)),(.e 6 (.slice Al ((R.values b).length) ka)),(.e 88 (.slice B2 b.term.args.length j2)),(.e 89 (.I ((b.term.args.length:Nat):Int))),(.e 90 (.I ((k:Nat):Int)))] [] [] [([],93,#[(.agg #[.I b.term.b0,.slice B3 b.term.args0.length j3])],(.bool (R.none_ b.term.b0 b.term.args0))),([(4,true)],93,#[(.agg #[.I b.term.b1,.slice B4 b.term.args1.length j4])],(.bool (R.none_ b.term.b1 b.term.args1)))] [] hR hM mix (by kernel_rfl) (by kernel_rfl) (by kernel_rfl) (by kernel_rfl) trivial trivial (fun w' hb' hM'=>trivial) (fun w' hb' hM'=>⟨fun hg=>none_any _ _ _ _ (hb0.2.2.2.1.below (hB.tr hb')),fun hg=>none_any _ _ _ _ (hb0.2.2.2.2.below (hB.tr hb')),trivial⟩) ?_
        clear hR hM; intro a137 w138 hR hb139 hM
        replace hB:=hB.tr hb139
        refine hK136 _ _ ?_
        refine wp_ret ?_
        try simp only [Exit.then,Exit.inBlock,Nat.reduceEqDiff,↓reduceIte]
        refine SX.ret_ 4 (.bool ((R.none_ b.term.b0 b.term.args0)&&(R.none_ b.term.b1 b.term.args1))) Try.results59 hR (by kernel_rfl) ?_
        clear hR hM mix hK1 hzn5 hb4 hkn5 hln5 hn5 hzn9 qn5n9 hb8 hkn9 hln9 hn9 hb12 hK13 hzd1x4 qn5d1x4 qn9d1x4 hkd1x4 hK48 hb51 hK52 hb55 hK56 hK57 hb60 hK66 hK67 hb70 hm73 hK74 hb77 hK78 hK97 hK98 hb101 hK102 hb105 hK111 hb114 hK120 hb123 hK129 hK130 hb133 hK136 hb139
        replace hB:=hBr.tr hB
        refine ⟨ret_bool ?_,hB⟩
        clear hB
        unfold R.term
        simp only [gt0,lt4] at *
        simp only [h61,Bool.false_eq_true,↓reduceIte]
        rw [← hargs]
        simp only [h61,h106,h115,h124,h134,Bool.not_true,Bool.false_eq_true,↓reduceIte]
        try simp_all
       ·skip
        refine wp_seq_k fun K140 hK140=>?_
        refine SX.region_q0 [.ld [],.ld []] [2,5,6,88,89,90,100,153] [(.e 2 (.P n5)),(.e 5 (.P d1x4)),(.e 6 (.slice Al ((R.values b).length) ka)),(.e 88 (.slice B2 b.term.args.length j2)),(.e 89 (.I ((b.term.args.length:Nat):Int))),(.e 90 (.I ((k:Nat):Int))),(.e 100 (.I b.term.kind)),(.e 153 (.bool (b.term.kind==5)))] hR hM mix (by kernel_rfl) (by kernel_rfl) (by kernel_rfl) (by kernel_rfl) ?_
        clear hR hM; intro a141 w142 hR hb143 hM
        replace hB:=hB.tr hb143
        refine hK140 _ _ ?_
        refine SX.cond_ (b.term.kind==5) hR (by kernel_rfl) (fun h144=>?_) (fun h144=>?_)
        ·skip
         refine wp_skip ?_
         refine hK129 _ _ ?_
         refine SX.cond_ (b.term.kind==5) hR (by kernel_rfl) (fun h145=>?_) (fun h145=>nomatch (h144.symm.trans h145))
         refine wp_seq_k fun K146 hK146=>?_
         refine SX.region_q [(4,(R.none_ b.term.b0 b.term.args0))] [.ld [],.ld [],.ld [4,5],.cl (.bool (R.none_ b.term.b0 b.term.args0)),.ld [],.ld [],.ld [],.ld [6,7],.cl (.bool (R.none_ b.term.b1 b.term.args1)),.pk,.ld []] [2,4,5,6,88,89,90] [(.e 2 (.P n5)),(.e 4 (.bool ((R.none_ b.term.b0 b.term.args0)&&(R.none_ b.term.b1 b.term.args1)))),(.e 5 (.P d1x4)),(.e 6 (.slice Al ((R.values b).length) ka)),(.e 88 (.slice B2 b.term.args.length j2)),(.e 89 (.I ((b.term.args.length:Nat):Int))),(.e 90 (.I ((k:Nat):Int)))] [] [] [([],93,#[(.agg #[.I b.term.b0,.slice B3 b.term.args0.length j3])],(.bool (R.none_ b.term.b0 b.term.args0))),([(4,true)],93,#[(.agg #[.I b.term.b1,.slice B4 b.term.args1.length j4])],(.bool (R.none_ b.term.b1 b.term.args1)))] [] hR hM mix (by kernel_rfl) (by kernel_rfl) (by kernel_rfl) (by kernel_rfl) trivial trivial (fun w' hb' hM'=>trivial) (fun w' hb' hM'=>⟨fun hg=>none_any _ _ _ _ (hb0.2.2.2.1.below (hB.tr hb')),fun hg=>none_any _ _ _ _ (hb0.2.2.2.2.below (hB.tr hb')),trivial⟩) ?_
         clear hR hM; intro a147 w148 hR hb149 hM
         replace hB:=hB.tr hb149
         refine hK146 _ _ ?_
         refine wp_ret ?_
         try simp only [Exit.then,Exit.inBlock,Nat.reduceEqDiff,↓reduceIte]
         refine SX.ret_ 4 (.bool ((R.none_ b.term.b0 b.term.args0)&&(R.none_ b.term.b1 b.term.args1))) Try.results59 hR (by kernel_rfl) ?_
         clear hR hM mix hK1 hzn5 hb4 hkn5 hln5 hn5 hzn9 qn5n9 hb8 hkn9 hln9 hn9 hb12 hK13 hzd1x4 qn5d1x4 qn9d1x4 hkd1x4 hK48 hb51 hK52 hb55 hK56 hK57 hb60 hK66 hK67 hb70 hm73 hK74 hb77 hK78 hK97 hK98 hb101 hK102 hb105 hK111 hb114 hK120 hb123 hK129 hK130 hb133 hK140 hb143 hK146 hb149
         replace hB:=hBr.tr hB
         refine ⟨ret_bool ?_,hB⟩
         clear hB
         unfold R.term
         simp only [gt0,lt4] at *
         simp only [h61,Bool.false_eq_true,↓reduceIte]
         rw [← hargs]
         simp only [h61,h106,h115,h124,h134,h144,Bool.not_true,Bool.false_eq_true,↓reduceIte]
         try simp_all
        ·skip
         refine SX.region_q0 [.ld [],.ld []] [2,5,6,88,89,90,153] [(.e 2 (.P n5)),(.e 5 (.P d1x4)),(.e 6 (.slice Al ((R.values b).length) ka)),(.e 88 (.slice B2 b.term.args.length j2)),(.e 89 (.I ((b.term.args.length:Nat):Int))),(.e 90 (.I ((k:Nat):Int))),(.e 153 (.bool (b.term.kind==6)))] hR hM mix (by kernel_rfl) (by kernel_rfl) (by kernel_rfl) (by kernel_rfl) ?_
         clear hR hM; intro a150 w151 hR hb152 hM
         replace hB:=hB.tr hb152
         refine hK129 _ _ ?_
         refine SX.cond_ (b.term.kind==6) hR (by kernel_rfl) (fun h153=>?_) (fun h153=>?_)
         ·skip
          refine wp_seq_k fun K154 hK154=>?_
          refine SX.region_q [(4,(R.none_ b.term.b0 b.term.args0))] [.ld [],.ld [],.ld [4,5],.cl (.bool (R.none_ b.term.b0 b.term.args0)),.ld [],.ld [],.ld [],.ld [6,7],.cl (.bool (R.none_ b.term.b1 b.term.args1)),.pk,.ld []] [2,4,5,6,88,89,90] [(.e 2 (.P n5)),(.e 4 (.bool ((R.none_ b.term.b0 b.term.args0)&&(R.none_ b.term.b1 b.term.args1)))),(.e 5 (.P d1x4)),(.e 6 (.slice Al ((R.values b).length) ka)),(.e 88 (.slice B2 b.term.args.length j2)),(.e 89 (.I ((b.term.args.length:Nat):Int))),(.e 90 (.I ((k:Nat):Int)))] [] [] [([],93,#[(.agg #[.I b.term.b0,.slice B3 b.term.args0.length j3])],(.bool (R.none_ b.term.b0 b.term.args0))),([(4,true)],93,#[(.agg #[.I b.term.b1,.slice B4 b.term.args1.length j4])],(.bool (R.none_ b.term.b1 b.term.args1)))] [] hR hM mix (by kernel_rfl) (by kernel_rfl) (by kernel_rfl) (by kernel_rfl) trivial trivial (fun w' hb' hM'=>trivial) (fun w' hb' hM'=>⟨fun hg=>none_any _ _ _ _ (hb0.2.2.2.1.below (hB.tr hb')),fun hg=>none_any _ _ _ _ (hb0.2.2.2.2.below (hB.tr hb')),trivial⟩) ?_
          clear hR hM; intro a155 w156 hR hb157 hM
          replace hB:=hB.tr hb157
          refine hK154 _ _ ?_
          refine wp_ret ?_
          try simp only [Exit.then,Exit.inBlock,Nat.reduceEqDiff,↓reduceIte]
          refine SX.ret_ 4 (.bool ((R.none_ b.term.b0 b.term.args0)&&(R.none_ b.term.b1 b.term.args1))) Try.results59 hR (by kernel_rfl) ?_
          clear hR hM mix hK1 hzn5 hb4 hkn5 hln5 hn5 hzn9 qn5n9 hb8 hkn9 hln9 hn9 hb12 hK13 hzd1x4 qn5d1x4 qn9d1x4 hkd1x4 hK48 hb51 hK52 hb55 hK56 hK57 hb60 hK66 hK67 hb70 hm73 hK74 hb77 hK78 hK97 hK98 hb101 hK102 hb105 hK111 hb114 hK120 hb123 hK129 hK130 hb133 hK140 hb143 hb152 hK154 hb157
          replace hB:=hBr.tr hB
          refine ⟨ret_bool ?_,hB⟩
          clear hB
          unfold R.term
          simp only [gt0,lt4] at *
          simp only [h61,Bool.false_eq_true,↓reduceIte]
          rw [← hargs]
          simp only [h61,h106,h115,h124,h134,h144,h153,Bool.not_true,Bool.false_eq_true,↓reduceIte]
          try simp_all
         ·skip
          refine wp_skip ?_
          refine hK97 _ _ ?_
          refine wp_seq_k fun K158 hK158=>?_
          refine SX.region_q0 [.ld []] [2,4,5,6,88,89,90] [(.e 2 (.P n5)),(.e 4 (.bool false)),(.e 5 (.P d1x4)),(.e 6 (.slice Al ((R.values b).length) ka)),(.e 88 (.slice B2 b.term.args.length j2)),(.e 89 (.I ((b.term.args.length:Nat):Int))),(.e 90 (.I ((k:Nat):Int)))] hR hM mix (by kernel_rfl) (by kernel_rfl) (by kernel_rfl) (by kernel_rfl) ?_
          clear hR hM; intro a159 w160 hR hb161 hM
          replace hB:=hB.tr hb161
          refine hK158 _ _ ?_
          refine wp_ret ?_
          try simp only [Exit.then,Exit.inBlock,Nat.reduceEqDiff,↓reduceIte]
          refine SX.ret_ 4 (.bool false) Try.results59 hR (by kernel_rfl) ?_
          clear hR hM mix hK1 hzn5 hb4 hkn5 hln5 hn5 hzn9 qn5n9 hb8 hkn9 hln9 hn9 hb12 hK13 hzd1x4 qn5d1x4 qn9d1x4 hkd1x4 hK48 hb51 hK52 hb55 hK56 hK57 hb60 hK66 hK67 hb70 hm73 hK74 hb77 hK78 hK97 hK98 hb101 hK102 hb105 hK111 hb114 hK120 hb123 hK129 hK130 hb133 hK140 hb143 hb152 hK158 hb161
          replace hB:=hBr.tr hB
          refine ⟨ret_bool ?_,hB⟩
          clear hB
          unfold R.term
          simp only [gt0,lt4] at *
          simp only [h61,Bool.false_eq_true,↓reduceIte]
          rw [← hargs]
          simp only [h61,h106,h115,h124,h134,h144,h153,Bool.not_true,Bool.false_eq_true,↓reduceIte]
          try simp_all
end Go.Proofs.Ytlkcidmmpeebeaa
