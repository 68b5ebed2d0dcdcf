/- Proved: ref06.CheckCode -/
import Derived.Test.YtlkcidmmpeebeaaRTrm
set_option linter.unusedVariables false
set_option linter.unusedSimpArgs false
namespace Go.Proofs.Ytlkcidmmpeebeaa
open Go.RowKit
set_option maxRecDepth 100000
def sumL:List BlockD→Nat
 | []=>0
 | b::l=>b.ops.length+sumL l
theorem fold_tot (B:Nat):∀ (l:List BlockD) (n:Nat),(∀ x∈l,x.ops.length≤140737488351232)→n+l.length*140737488351232≤9223372036854775807→l.foldl (fun n b=>IntKind.i64.wrap (n+(b.ops.length:Int))) (n:Int)=((n+sumL l:Nat):Int)
 | [],n,_,_=>rfl
 | b::l,n,h,hn=>by
  have hb:=h b List.mem_cons_self
  have hn':n+(l.length+1)*140737488351232≤9223372036854775807:=by simpa using hn
  rw [List.foldl_cons,IntWalk.i64_in _ (by omega),show ((n:Int)+(b.ops.length:Int))=((n+b.ops.length:Nat):Int) by omega,fold_tot B l (n+b.ops.length) (fun x hx=>h x (List.mem_cons_of_mem _ hx)) (by omega)]
  simp only [sumL]; omega
theorem sum_mem:∀ {l:List BlockD} {x:BlockD},x∈l→x.ops.length≤sumL l
 | b::l,x,h=>by
  rcases List.mem_cons.1 h with rfl | h
  ·simp only [sumL]; omega
  ·have:=sum_mem h; simp only [sumL]; omega
theorem ops_small {l:List BlockD} (h:∀ x∈l,x.ops.length≤140737488351232) (hl:l.length≤400) (ht:totW l≤6000):∀ x∈l,x.ops.length≤6000:=fun x hx=>by
 have e:totW l=((sumL l:Nat):Int):=by
  unfold totW
  have:=fold_tot 0 l 0 h (by omega)
  simpa using this
 have:=sum_mem hx
 omega
theorem CodeAt.small {w:World} {v1 v2 v3:Value} {c:CodeD} (h:CodeAt w v1 v2 v3 c):∀ x∈c.blocks,x.ops.length≤140737488351232:=fun x hx=>by
 obtain ⟨k,hk⟩:=List.mem_iff_getElem?.1 hx
 obtain ⟨A,cap,hv,h1,h2,h3⟩:=h.2.1
 obtain ⟨b,off,u1,u2,u3,u4,_,hb,_⟩:=h3 k x hk
 obtain ⟨A',cap',_,s⟩:=hb.2.1.shape
 exact s.1.2

theorem chkB_no {a b o t:Bool} (h:(((a||b)||(!o))||(!t))=true):(!(a||b)&&o&&t)=false:=by revert h; cases a <;> cases b <;> cases o <;> cases t <;> simp
theorem chkB_yes {a b o t:Bool} (h:(((a||b)||(!o))||(!t))=false):(!(a||b)&&o&&t)=true:=by revert h; cases a <;> cases b <;> cases o <;> cases t <;> simp

set_option maxHeartbeats 1000000 in
theorem refCheck_any (c:CodeD) (v1 v2 v3:Value) (w:World) (h:CodeAt w v1 v2 v3 c):Calls Try.prog 18 #[(.agg #[.I c.params,v1,v2,v3])] w fun e w'=>e=.returned (.I (R.check c (totW c.blocks)))∧Below w.heap.size w w':=by
 have h0:=h
 obtain ⟨A1,k1,rfl,s1⟩:=h.2.1.shape
 obtain ⟨A2,k2,rfl,s2⟩:=h.2.2.1.shape
 obtain ⟨A3,k3,rfl,s3⟩:=h.2.2.2.shape
 unfold Shape at s1 s2 s3
 have mix:=mixed
 have hB:Below w.heap.size w w:=Below.refl _ _
 have hM:SX.Cells w []:=SX.cells_nil
 refine SX.enter [(.agg #[.I c.params,.slice A1 c.blocks.length k1,.slice A2 c.contexts.length k2,.slice A3 c.objects.length k3])] 57 Try.func18 rfl rfl (by kernel_rfl) ?_
 intro a hR
 refine wp_seq_k fun K1 hK1=>?_
 refine SX.region_l ?_
 obtain ⟨n5,hn5⟩:∃ n,w.heap.size=n:=⟨_,rfl⟩
 have hzn5:w.heap.size≤n5:=by have:=hB.size; omega
 refine SX.list_box 0 n5 [(.I c.params),(.slice A1 c.blocks.length k1),(.slice A2 c.contexts.length k2),(.slice A3 c.objects.length k3)] 26 ((.e 1 (.P n5))::[(.e 0 (.agg #[.I c.params,.slice A1 c.blocks.length k1,.slice A2 c.contexts.length k2,.slice A3 c.objects.length k3]))]) [(⟨n5,0,none⟩,(.I c.params)),(⟨n5,1,none⟩,(.slice A1 c.blocks.length k1)),(⟨n5,2,none⟩,(.slice A2 c.contexts.length k2)),(⟨n5,3,none⟩,(.slice A3 c.objects.length k3))] hR hM hn5 (by kernel_rfl) (by kernel_rfl) ?_
 clear hR hM; intro a2 w3 hR hb4 hM hkn5 hln5
 replace hB:=hB.tr hb4
 replace hR:SX.RSt 57 [] [(.e 1 (.P n5))] a2:=hR.keep (ts:=[1]) (by kernel_rfl)
 refine SX.list_q0 (κ:=[]) 1 1 [.ld []] [1] [(.e 1 (.P n5))] hR hM (by kernel_rfl) (by kernel_rfl) ?_
 clear hR hM; intro a6 w7 hR hb8 hM
 replace hB:=hB.tr hb8
 replace hkn5:=SX.blk_below hkn5 hb8
 refine SX.list_end 2 (by kernel_rfl) ?_
 refine hK1 _ _ ?_
 refine wp_seq_k fun K9 hK9=>?_
 refine SX.qf [(4,decide (400<(c.blocks.length:Int))),(9,(decide (400<(c.blocks.length:Int))||decide (6000<(totW c.blocks)))),(15,((decide (400<(c.blocks.length:Int))||decide (6000<(totW c.blocks)))||decide (64<(c.contexts.length:Int))))] [.ld [],.ld [1],.ld [],.ld [],.ld [],.ld [0,1,2,3],.cl (.I (totW c.blocks)),.ld [],.pk,.ld [],.ld [],.ld [2],.ld [],.ld [],.pk,.ld [],.ld [],.ld [3],.ld [],.ld [],.pk] [1,25] [(.e 25 (.bool (((decide (400<(c.blocks.length:Int))||decide (6000<(totW c.blocks)))||decide (64<(c.contexts.length:Int)))||decide (64<(c.objects.length:Int)))))] [] [] [([(4,false)],45,#[(.agg #[.I c.params,.slice A1 c.blocks.length k1,.slice A2 c.contexts.length k2,.slice A3 c.objects.length k3])],(.I (totW c.blocks)))] [] hR hM hB mix trivial trivial (fun w' hb' hM'=>trivial) (fun w' hb' hM'=>⟨fun hg=>ops_any c _ _ _ _ (h0.below (hB.tr hb')),trivial⟩) fun a10 w11 hR hb12 hB hM=>?_
 replace hkn5:=SX.blk_below hkn5 hb12
 refine SX.cond_ (((decide (400<(c.blocks.length:Int))||decide (6000<(totW c.blocks)))||decide (64<(c.contexts.length:Int)))||decide (64<(c.objects.length:Int))) hR (by kernel_rfl) (fun h13=>?_) (fun h13=>?_)
 ·skip
  refine SX.qs [.ld []] [2] [(.e 2 (.I 5))] hR hM hB mix fun a14 w15 hR hb16 hB hM=>?_
  replace hkn5:=SX.blk_below hkn5 hb16
  refine wp_ret ?_
  try simp only [Exit.then,Exit.inBlock,Nat.reduceEqDiff,↓reduceIte]
  refine SX.ret_ 2 (.I 5) Try.results18 hR (by kernel_rfl) ?_
  clear hR hM mix hK1 hzn5 hb4 hkn5 hln5 hn5 hb8 hK9 hb12 hb16
  refine ⟨ret_int ?_,hB⟩
  unfold R.check
  rw [lim_eq]
  simp only [h13,Bool.false_eq_true,↓reduceIte]
 ·skip
  refine wp_skip ?_
  refine hK9 _ _ ?_
  refine wp_seq_k fun K17 hK17=>?_
  refine SX.qf [] [.ld [0,1,2,3],.cl (.bool (R.heads c)),.ld []] [1,28] [(.e 28 (.bool (!(R.heads c))))] [] [] [([],57,#[(.agg #[.I c.params,.slice A1 c.blocks.length k1,.slice A2 c.contexts.length k2,.slice A3 c.objects.length k3])],(.bool (R.heads c)))] [] hR hM hB mix trivial trivial (fun w' hb' hM'=>trivial) (fun w' hb' hM'=>⟨fun hg=>heads_any c _ _ _ _ (h0.below (hB.tr hb')),trivial⟩) fun a18 w19 hR hb20 hB hM=>?_
  replace hkn5:=SX.blk_below hkn5 hb20
  refine SX.cond_ (!(R.heads c)) hR (by kernel_rfl) (fun h21=>?_) (fun h21=>?_)
  ·skip
   refine SX.qs [.ld []] [2] [(.e 2 (.I 4))] hR hM hB mix fun a22 w23 hR hb24 hB hM=>?_
   replace hkn5:=SX.blk_below hkn5 hb24
   refine wp_ret ?_
   try simp only [Exit.then,Exit.inBlock,Nat.reduceEqDiff,↓reduceIte]
   refine SX.ret_ 2 (.I 4) Try.results18 hR (by kernel_rfl) ?_
   clear hR hM mix hK1 hzn5 hb4 hkn5 hln5 hn5 hb8 hK9 hb12 hK17 hb20 hb24
   refine ⟨ret_int ?_,hB⟩
   unfold R.check
   rw [lim_eq]
   simp only [h13,h21,Bool.false_eq_true,↓reduceIte]
  ·skip
   refine wp_skip ?_
   refine hK17 _ _ ?_
   refine wp_seq_k fun K25 hK25=>?_
   have hsm:=ops_small h0.small (by have:=h13; simp only [Bool.or_eq_false_iff,decide_eq_false_iff_not] at this; omega) (by have:=h13; simp only [Bool.or_eq_false_iff,decide_eq_false_iff_not] at this; omega)
   refine SX.qs [.ld [],.ld [1],.ld [],.ld []] [1,30,31,32] [(.e 30 (.slice A1 c.blocks.length k1)),(.e 31 (.I (c.blocks.length:Int))),(.e 32 (.I 0))] hR hM hB mix fun a26 w27 hR hb28 hB hM=>?_
   replace hkn5:=SX.blk_below hkn5 hb28
   refine wp_block ?_
   refine wp_loop_ghost (fun m31 a' w'=>∃ k:Nat,m31=c.blocks.length-k∧k≤c.blocks.length∧SX.RSt 57 [] [(.e 1 (.P n5)),(.e 30 (.slice A1 c.blocks.length k1)),(.e 31 (.I (c.blocks.length:Int))),(.e 32 (.I (k:Int)))] a'∧Below w.heap.size w w'∧SX.Cells w' [(⟨n5,0,none⟩,(.I c.params)),(⟨n5,1,none⟩,(.slice A1 c.blocks.length k1)),(⟨n5,2,none⟩,(.slice A2 c.contexts.length k2)),(⟨n5,3,none⟩,(.slice A3 c.objects.length k3))]∧Upto c.blocks (fun _ b=>!(decide (b.params<0)||decide (999<b.params))&&R.ops c b&&R.term c b) (k)) (c.blocks.length-0) ⟨0,rfl,Nat.zero_le _,hR.keep (ts:=[1,30,31,32]) (by kernel_rfl),hB,hM,Upto.zero⟩ ?_
   clear hR hM hB
   rintro m31 a29 w30 ⟨k,hm31,hlek,hR,hB,hM,hIk⟩
   refine SX.qs [.ld []] [1,30,31,32,33] [(.e 33 (.bool (decide ((k:Int)<(c.blocks.length:Int)))))] hR hM hB mix fun a32 w33 hR hb34 hB hM=>?_
   refine wp_seq_k fun K35 hK35=>?_
   refine SX.cond_ (decide ((k:Int)<(c.blocks.length:Int))) hR (by kernel_rfl) (fun h36=>?_) (fun h36=>?_)
   ·skip
    refine wp_skip ?_
    refine hK35 _ _ ?_
    refine wp_seq_k fun K37 hK37=>?_
    refine wp_block ?_
    refine wp_seq_k fun K38 hK38=>?_
    have hlt:k<c.blocks.length:=lt_of_dec h36
    obtain ⟨y,hy⟩:=get_of_lt hlt
    obtain ⟨bby,boy,hAy,B1y,j1y,B2y,j2y,B3y,j3y,B4y,j4y,hsy,hbly,cb0y,cb1y,cb2y,cb3y,cb4y,cb5y,cb6y,cb7y,cb8y,cb9y⟩:=h0.2.1.elem hy
    subst hAy; unfold Shape at hsy
    have hoy:bby<w.heap.size:=World.block_lt_of_cell? w _ cb0y
    replace hM:=(SX.cells_add (cell_below hB cb0y) (SX.cells_add (cell_below hB cb1y) (SX.cells_add (cell_below hB cb2y) (SX.cells_add (cell_below hB cb3y) (SX.cells_add (cell_below hB cb4y) (SX.cells_add (cell_below hB cb5y) (SX.cells_add (cell_below hB cb6y) (SX.cells_add (cell_below hB cb7y) (SX.cells_add (cell_below hB cb8y) (SX.cells_add (cell_below hB cb9y) hM))))))))))
    refine SX.region_l ?_
    refine SX.list_q (κ:=[]) 0 2 [.ix ⟨bby,boy+k*10,none⟩,.ld [0,1,2,3,4,5,6,7,8,9]] [1,30,31,32,35] [(.e 1 (.P n5)),(.e 30 (.slice (some ⟨bby,boy,none⟩) c.blocks.length k1)),(.e 31 (.I (c.blocks.length:Int))),(.e 32 (.I (k:Int))),(.e 35 (.agg #[.I y.params,.slice B1y y.ops.length j1y,.I y.term.kind,.I y.term.a,.I y.term.n,.slice B2y y.term.args.length j2y,.I y.term.b0,.slice B3y y.term.args0.length j3y,.I y.term.b1,.slice B4y y.term.args1.length j4y]))] [([],⟨bby,boy,none⟩,c.blocks.length,(k:Int),10,⟨bby,boy+k*10,none⟩)] [] [] [] hR hM (by kernel_rfl) (by kernel_rfl) ⟨fun hg=>SX.ix_ok (by omega),trivial⟩ trivial (fun w' hb' hM'=>trivial) (fun w' hb' hM'=>trivial) ?_
    clear hR hM; intro a39 w40 hR hb41 hM
    replace hB:=hB.tr hb41
    obtain ⟨n45,hn45⟩:∃ n,w40.heap.size=n:=⟨_,rfl⟩
    have hzn45:w.heap.size≤n45:=by have:=hB.size; omega
    refine SX.list_alloc 2 n45 [(.I 0),(.slice none 0 0),(.I 0),(.I 0),(.I 0),(.slice none 0 0),(.I 0),(.slice none 0 0),(.I 0),(.slice none 0 0)] 62 ((.e 4 (.P n45))::[(.e 1 (.P n5)),(.e 30 (.slice (some ⟨bby,boy,none⟩) c.blocks.length k1)),(.e 31 (.I (c.blocks.length:Int))),(.e 32 (.I (k:Int))),(.e 35 (.agg #[.I y.params,.slice B1y y.ops.length j1y,.I y.term.kind,.I y.term.a,.I y.term.n,.slice B2y y.term.args.length j2y,.I y.term.b0,.slice B3y y.term.args0.length j3y,.I y.term.b1,.slice B4y y.term.args1.length j4y]))]) hR hM hn45 (by kernel_rfl) ?_
    clear hR hM; intro a42 w43 hR hb44 hM hkn45 hln45 hnen45
    replace hB:=hB.tr hb44
    replace hR:SX.RSt 57 [] [(.e 1 (.P n5)),(.e 4 (.P n45)),(.e 30 (.slice (some ⟨bby,boy,none⟩) c.blocks.length k1)),(.e 31 (.I (c.blocks.length:Int))),(.e 32 (.I (k:Int))),(.e 35 (.agg #[.I y.params,.slice B1y y.ops.length j1y,.I y.term.kind,.I y.term.a,.I y.term.n,.slice B2y y.term.args.length j2y,.I y.term.b0,.slice B3y y.term.args0.length j3y,.I y.term.b1,.slice B4y y.term.args1.length j4y]))] a42:=hR.keep (ts:=[1,4,30,31,32,35]) (by kernel_rfl)
    refine SX.list_store 3 [(0,(.I y.params)),(1,(.slice B1y y.ops.length j1y)),(2,(.I y.term.kind)),(3,(.I y.term.a)),(4,(.I y.term.n)),(5,(.slice B2y y.term.args.length j2y)),(6,(.I y.term.b0)),(7,(.slice B3y y.term.args0.length j3y)),(8,(.I y.term.b1)),(9,(.slice B4y y.term.args1.length j4y))] [(.I y.params),(.slice B1y y.ops.length j1y),(.I y.term.kind),(.I y.term.a),(.I y.term.n),(.slice B2y y.term.args.length j2y),(.I y.term.b0),(.slice B3y y.term.args0.length j3y),(.I y.term.b1),(.slice B4y y.term.args1.length j4y)] [(⟨bby,boy+k*10,none⟩,(.I y.params)),(⟨bby,boy+k*10+1,none⟩,(.slice B1y y.ops.length j1y)),(⟨bby,boy+k*10+2,none⟩,(.I y.term.kind)),(⟨bby,boy+k*10+3,none⟩,(.I y.term.a)),(⟨bby,boy+k*10+4,none⟩,(.I y.term.n)),(⟨bby,boy+k*10+5,none⟩,(.slice B2y y.term.args.length j2y)),(⟨bby,boy+k*10+6,none⟩,(.I y.term.b0)),(⟨bby,boy+k*10+7,none⟩,(.slice B3y y.term.args0.length j3y)),(⟨bby,boy+k*10+8,none⟩,(.I y.term.b1)),(⟨bby,boy+k*10+9,none⟩,(.slice B4y y.term.args1.length j4y)),(⟨n5,0,none⟩,(.I c.params)),(⟨n5,1,none⟩,(.slice (some ⟨bby,boy,none⟩) c.blocks.length k1)),(⟨n5,2,none⟩,(.slice A2 c.contexts.length k2)),(⟨n5,3,none⟩,(.slice A3 c.objects.length k3))] [(⟨n45,0,none⟩,(.I y.params)),(⟨n45,1,none⟩,(.slice B1y y.ops.length j1y)),(⟨n45,2,none⟩,(.I y.term.kind)),(⟨n45,3,none⟩,(.I y.term.a)),(⟨n45,4,none⟩,(.I y.term.n)),(⟨n45,5,none⟩,(.slice B2y y.term.args.length j2y)),(⟨n45,6,none⟩,(.I y.term.b0)),(⟨n45,7,none⟩,(.slice B3y y.term.args0.length j3y)),(⟨n45,8,none⟩,(.I y.term.b1)),(⟨n45,9,none⟩,(.slice B4y y.term.args1.length j4y)),(⟨bby,boy+k*10,none⟩,(.I y.params)),(⟨bby,boy+k*10+1,none⟩,(.slice B1y y.ops.length j1y)),(⟨bby,boy+k*10+2,none⟩,(.I y.term.kind)),(⟨bby,boy+k*10+3,none⟩,(.I y.term.a)),(⟨bby,boy+k*10+4,none⟩,(.I y.term.n)),(⟨bby,boy+k*10+5,none⟩,(.slice B2y y.term.args.length j2y)),(⟨bby,boy+k*10+6,none⟩,(.I y.term.b0)),(⟨bby,boy+k*10+7,none⟩,(.slice B3y y.term.args0.length j3y)),(⟨bby,boy+k*10+8,none⟩,(.I y.term.b1)),(⟨bby,boy+k*10+9,none⟩,(.slice B4y y.term.args1.length j4y)),(⟨n5,0,none⟩,(.I c.params)),(⟨n5,1,none⟩,(.slice (some ⟨bby,boy,none⟩) c.blocks.length k1)),(⟨n5,2,none⟩,(.slice A2 c.contexts.length k2)),(⟨n5,3,none⟩,(.slice A3 c.objects.length k3))] hR (SX.cells_sub hM [0,1,2,3,4,5,6,7,8,9,10,11,12,13] (by kernel_rfl)) hnen45 hkn45 (by kernel_rfl) (by kernel_rfl) (by kernel_rfl) ?_
    clear hR hM hkn45; intro a46 w47 hR hb48 hM hkn45
    replace hB:=hB.trans (hb48.below (by omega))
    refine SX.list_end 4 (by kernel_rfl) ?_
    refine hK38 _ _ ?_
    refine SX.qf [(3,decide (y.params<0)),(8,(decide (y.params<0)||decide (999<y.params))),(14,((decide (y.params<0)||decide (999<y.params))||(!(R.ops c y))))] [.ld [],.ld [0],.ld [],.ld [],.ld [],.ld [0],.ld [],.pk,.ld [],.ld [20,21,22,23],.ld [0,1,2,3,4,5,6,7,8,9],.cl (.bool (R.ops c y)),.ld [],.pk,.ld [],.ld [20,21,22,23],.ld [0,1,2,3,4,5,6,7,8,9],.cl (.bool (R.term c y)),.ld [],.pk] [1,30,31,32,55] [(.e 55 (.bool (((decide (y.params<0)||decide (999<y.params))||(!(R.ops c y)))||(!(R.term c y)))))] [] [] [([(8,false)],58,#[(.agg #[.I c.params,.slice (some ⟨bby,boy,none⟩) c.blocks.length k1,.slice A2 c.contexts.length k2,.slice A3 c.objects.length k3]),(.agg #[.I y.params,.slice B1y y.ops.length j1y,.I y.term.kind,.I y.term.a,.I y.term.n,.slice B2y y.term.args.length j2y,.I y.term.b0,.slice B3y y.term.args0.length j3y,.I y.term.b1,.slice B4y y.term.args1.length j4y])],(.bool (R.ops c y))),([(14,false)],59,#[(.agg #[.I c.params,.slice (some ⟨bby,boy,none⟩) c.blocks.length k1,.slice A2 c.contexts.length k2,.slice A3 c.objects.length k3]),(.agg #[.I y.params,.slice B1y y.ops.length j1y,.I y.term.kind,.I y.term.a,.I y.term.n,.slice B2y y.term.args.length j2y,.I y.term.b0,.slice B3y y.term.args0.length j3y,.I y.term.b1,.slice B4y y.term.args1.length j4y])],(.bool (R.term c y)))] [] hR hM hB mix trivial trivial (fun w' hb' hM'=>trivial) (fun w' hb' hM'=>⟨fun hg=>refOps_any c _ _ _ _ (h0.below (hB.tr hb')) y _ _ _ _ (hbly.below (hB.tr hb')) (by have:=hg; simp [SX.pv,SX.kv] at this; omega) (hsm y (List.mem_of_getElem? hy)),fun hg=>refTerm_any c _ _ _ _ (h0.below (hB.tr hb')) y _ _ _ _ (hbly.below (hB.tr hb')) (by have:=hg; simp [SX.pv,SX.kv] at this; omega) (hsm y (List.mem_of_getElem? hy)),trivial⟩) fun a49 w50 hR hb51 hB hM=>?_
    replace hkn45:=SX.blk_below hkn45 hb51
    refine SX.cond_ (((decide (y.params<0)||decide (999<y.params))||(!(R.ops c y)))||(!(R.term c y))) hR (by kernel_rfl) (fun h52=>?_) (fun h52=>?_)
    ·skip
     refine SX.qs [.ld []] [1,2,30,31,32] [(.e 2 (.I 4))] hR hM hB mix fun a53 w54 hR hb55 hB hM=>?_
     replace hkn45:=SX.blk_below hkn45 hb55
     refine wp_ret ?_
     try simp only [Exit.then,Exit.inBlock,Nat.reduceEqDiff,↓reduceIte]
     refine SX.ret_ 2 (.I 4) Try.results18 hR (by kernel_rfl) ?_
     clear hR hM mix hK1 hzn5 hb4 hkn5 hln5 hn5 hb8 hK9 hb12 hK17 hb20 hK25 hb28 hm31 hb34 hK35 hK37 hK38 hb41 hzn45 hb44 hkn45 hln45 hn45 hnen45 hb48 hb51 hb55
     refine ⟨ret_int ?_,hB⟩
     unfold R.check
     rw [lim_eq]
     simp only [h13,h21,Bool.false_eq_true,↓reduceIte]; rw [← all_no hy (p:=fun b=>!(decide (b.params<0)||decide (999<b.params))&&R.ops c b&&R.term c b) (chkB_no h52)]; rfl
    ·skip
     refine wp_skip ?_
     refine hK37 _ _ ?_
     refine SX.qf0 [] [.nm (.I ((k+1:Nat):Int)),.ld []] [1,30,31,32] [(.e 32 (.I ((k+1:Nat):Int)))] [] [] [] [([],(.I (IntKind.i64.wrap ((k:Int)+1))),(.I ((k+1:Nat):Int)))] hR hM hB mix trivial ⟨fun hg=>SX.wrap_ok (by omega),trivial⟩ (fun w' hb' hM'=>trivial) (fun w' hb' hM'=>trivial) fun a56 w57 hR hb58 hB hM=>?_
     replace hkn45:=SX.blk_below hkn45 hb58
     exact ⟨c.blocks.length-(k+1),by omega,k+1,rfl,by omega,hR.keep (ts:=[1,30,31,32]) (by kernel_rfl),hB,SX.cells_sub hM [20,21,22,23] (by kernel_rfl),hIk.step hy (chkB_yes h52)⟩
   ·skip
    refine wp_exit ?_
    refine hK25 _ _ ?_
    refine SX.qs [.ld []] [1,2,30,31,32] [(.e 2 (.I 0))] hR hM hB mix fun a59 w60 hR hb61 hB hM=>?_
    refine wp_ret ?_
    try simp only [Exit.then,Exit.inBlock,Nat.reduceEqDiff,↓reduceIte]
    refine SX.ret_ 2 (.I 0) Try.results18 hR (by kernel_rfl) ?_
    clear hR hM mix hK1 hzn5 hb4 hkn5 hln5 hn5 hb8 hK9 hb12 hK17 hb20 hK25 hb28 hm31 hb34 hK35 hb61
    refine ⟨ret_int ?_,hB⟩
    unfold R.check
    rw [lim_eq]
    simp only [h13,h21,Bool.false_eq_true,↓reduceIte]; rw [← hIk.all (le_of_dec h36)]; rfl
end Go.Proofs.Ytlkcidmmpeebeaa
