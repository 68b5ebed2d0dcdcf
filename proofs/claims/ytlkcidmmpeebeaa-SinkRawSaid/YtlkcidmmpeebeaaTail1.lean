/- Proved: returns,isTail,List -/
import Derived.Test.YtlkcidmmpeebeaaEdge2
set_option linter.unusedVariables false
set_option linter.unusedSimpArgs false
namespace Go.Proofs.Ytlkcidmmpeebeaa
open Go.RowKit
set_option maxRecDepth 100000
def retB (b:BlockD):Bool:=b.ops.all (fun o=>!(o.kind != 21&&o.kind != 20))&&(b.term.kind==4&&b.term.a==0)
def isTailD (c:CodeD) (t:TermD):Bool:=if ((t.kind != 3)||decide (0≤t.b1))||decide ((0:Int)<(t.args0.length:Int)) then false else match c.blocks[t.b0.toNat]? with | some b=>retB b | none=>false

theorem self_ne99 (i j:Nat) (x0 x1 x2:Int) (w:World):(binS .neq 99 (.tmp i) (.tmp j) (.agg #[.I x0,.I x1,.I x2]) (.agg #[.I x0,.I x1,.I x2])).run Try.prog w=.ok (.value (.bool false)) w:=by
 unfold binS
 simp [go_sem,eqGuard,Try.underlying99]

theorem self_ne102 (i j:Nat) (x0 x1 x2:Int) (w:World):(binS .neq 102 (.tmp i) (.tmp j) (.agg #[.I x0,.I x1,.I x2]) (.agg #[.I x0,.I x1,.I x2])).run Try.prog w=.ok (.value (.bool false)) w:=by
 unfold binS
 simp [go_sem,eqGuard,Try.underlying102]

theorem self_ne74 (i j:Nat) (x0 x1 x2 x3 x4 x5 x6 x7 x8 x9 x10:Int) (w:World):(binS .neq 74 (.tmp i) (.tmp j) (.agg #[.I x0,.I x1,.I x2,.I x3,.I x4,.I x5,.I x6,.I x7,.I x8,.I x9,.I x10]) (.agg #[.I x0,.I x1,.I x2,.I x3,.I x4,.I x5,.I x6,.I x7,.I x8,.I x9,.I x10])).run Try.prog w=.ok (.value (.bool false)) w:=by
 unfold binS
 simp [go_sem,eqGuard,Try.underlying74,Try.underlying72]

set_option maxHeartbeats 400000 in
theorem listI_any (u v:Value) (xs:List Int) (w:World) (hu:IntsAt w u xs) (hv:IntsAt w v xs):Calls Try.prog 28 #[u,v] w fun e w'=>e=.returned (.bool (true))∧Below w.heap.size w w':=by
 have hu0:=hu
 have hv0:=hv
 obtain ⟨Au,ku,rfl,su⟩:=hu.shape
 obtain ⟨Av,kv,rfl,sv⟩:=hv.shape
 unfold Shape at su sv
 have mix:=mixed
 have hB:Below w.heap.size w w:=Below.refl _ _
 have hM:SX.Cells w []:=SX.cells_nil
 refine SX.enter [(.slice Au xs.length ku),(.slice Av xs.length kv)] 26 Try.func28 rfl rfl (by kernel_rfl) ?_
 intro a hR
 refine wp_seq_k fun K1 hK1=>?_
 refine SX.region_q0 [.ld []] [0,1] [(.e 0 (.slice Au xs.length ku)),(.e 1 (.slice Av xs.length kv))] hR hM mix (by kernel_rfl) (by kernel_rfl) (by kernel_rfl) (by kernel_rfl) ?_
 clear hR hM; intro a2 w3 hR hb4 hM
 replace hB:=hB.tr hb4
 refine hK1 _ _ ?_
 refine wp_seq_k fun K5 hK5=>?_
 refine wp_seq_k fun K6 hK6=>?_
 refine SX.region_q0 [.ld [],.ld [],.ld [],.ld [],.ld []] [0,1,10] [(.e 0 (.slice Au xs.length ku)),(.e 1 (.slice Av xs.length kv)),(.e 10 (.bool (((xs.length:Nat):Int) != ((xs.length:Nat):Int))))] hR hM mix (by kernel_rfl) (by kernel_rfl) (by kernel_rfl) (by kernel_rfl) ?_
 clear hR hM; intro a7 w8 hR hb9 hM
 replace hB:=hB.tr hb9
 refine hK6 _ _ ?_
 refine SX.cond_ (((xs.length:Nat):Int) != ((xs.length:Nat):Int)) hR (by kernel_rfl) (fun h10=>?_) (fun h10=>?_)
 ·skip
  exact absurd h10 (by simp)
 ·skip
  refine wp_skip ?_
  refine hK5 _ _ ?_
  refine wp_seq_k fun K11 hK11=>?_
  refine wp_seq_k fun K12 hK12=>?_
  refine SX.region_q0 [.ld []] [0,1,5] [(.e 0 (.slice Au xs.length ku)),(.e 1 (.slice Av xs.length kv)),(.e 5 (.I 0))] hR hM mix (by kernel_rfl) (by kernel_rfl) (by kernel_rfl) (by kernel_rfl) ?_
  clear hR hM; intro a13 w14 hR hb15 hM
  replace hB:=hB.tr hb15
  refine hK12 _ _ ?_
  refine wp_block ?_
  refine wp_loop_ghost (fun m18 a' w'=>∃ k:Nat,m18=xs.length-k∧k≤xs.length∧SX.RSt 26 [] [(.e 0 (.slice Au xs.length ku)),(.e 1 (.slice Av xs.length kv)),(.e 5 (.I ((k:Nat):Int)))] a'∧Below w.heap.size w w'∧SX.Cells w' []∧True) (xs.length-0) ⟨0,rfl,Nat.zero_le _,hR.keep (ts:=[0,1,5]) (by kernel_rfl),hB,hM,trivial⟩ ?_
  clear hR hM hB
  rintro m18 a16 w17 ⟨k,hm18,hlek,hR,hB,hM,hIk⟩
  refine wp_seq_k fun K19 hK19=>?_
  refine wp_seq_k fun K20 hK20=>?_
  refine SX.region_q0 [.ld [],.ld [],.ld [],.ld []] [0,1,5,14] [(.e 0 (.slice Au xs.length ku)),(.e 1 (.slice Av xs.length kv)),(.e 5 (.I ((k:Nat):Int))),(.e 14 (.bool (decide (((k:Nat):Int)<((xs.length:Nat):Int)))))] hR hM mix (by kernel_rfl) (by kernel_rfl) (by kernel_rfl) (by kernel_rfl) ?_
  clear hR hM; intro a21 w22 hR hb23 hM
  replace hB:=hB.tr hb23
  refine hK20 _ _ ?_
  refine SX.cond_ (decide (((k:Nat):Int)<((xs.length:Nat):Int))) hR (by kernel_rfl) (fun h24=>?_) (fun h24=>?_)
  ·skip
   refine wp_skip ?_
   refine hK19 _ _ ?_
   refine wp_seq_k fun K25 hK25=>?_
   refine wp_block ?_
   refine wp_seq_k fun K26 hK26=>?_
   have hlt:k<xs.length:=lt_of_dec h24
   obtain ⟨y,hy⟩:=get_of_lt hlt
   obtain ⟨iby,ioy,hAy,hiy,ciy⟩:=hu0.elem hy
   subst hAy
   have hoy:iby<w.heap.size:=World.block_lt_of_cell? w _ ciy
   replace hM:=(SX.cells_add (cell_below hB ciy) hM)
   obtain ⟨ibz,ioz,hAz,hiz,ciz⟩:=hv0.elem hy
   subst hAz
   have hoz:ibz<w.heap.size:=World.block_lt_of_cell? w _ ciz
   replace hM:=(SX.cells_add (cell_below hB ciz) hM)
   refine SX.region_q [] [.ld [],.ld [],.ix ⟨iby,ioy+k*1,none⟩,.ld [1],.ld [],.ld [],.ix ⟨ibz,ioz+k*1,none⟩,.ld [0],.ld []] [0,1,5,25] [(.e 0 (.slice (some ⟨iby,ioy,none⟩) xs.length ku)),(.e 1 (.slice (some ⟨ibz,ioz,none⟩) xs.length kv)),(.e 5 (.I ((k:Nat):Int))),(.e 25 (.bool (y != y)))] [([],⟨iby,ioy,none⟩,xs.length,((k:Nat):Int),1,⟨iby,ioy+k*1,none⟩),([],⟨ibz,ioz,none⟩,xs.length,((k:Nat):Int),1,⟨ibz,ioz+k*1,none⟩)] [] [] [] hR hM mix (by kernel_rfl) (by kernel_rfl) (by kernel_rfl) (by kernel_rfl) ⟨fun hg=>SX.ix_ok (by omega),fun hg=>SX.ix_ok (by omega),trivial⟩ trivial (fun w' hb' hM'=>trivial) (fun w' hb' hM'=>trivial) ?_
   clear hR hM; intro a27 w28 hR hb29 hM
   replace hB:=hB.tr hb29
   refine hK26 _ _ ?_
   refine SX.cond_ (y != y) hR (by kernel_rfl) (fun h30=>?_) (fun h30=>?_)
   ·skip
    exact absurd h30 (by simp)
   ·skip
    refine wp_skip ?_
    refine hK25 _ _ ?_
    refine SX.region_q [] [.ld [],.nm (.I ((k+1:Nat):Int)),.ld []] [0,1,5] [(.e 0 (.slice (some ⟨iby,ioy,none⟩) xs.length ku)),(.e 1 (.slice (some ⟨ibz,ioz,none⟩) xs.length kv)),(.e 5 (.I ((k+1:Nat):Int)))] [] [] [] [([],(.I (IntKind.i64.wrap (((k:Nat):Int)+1))),(.I ((k+1:Nat):Int)))] hR hM mix (by kernel_rfl) (by kernel_rfl) (by kernel_rfl) (by kernel_rfl) trivial ⟨fun hg=>SX.wrap_ok (by omega),trivial⟩ (fun w' hb' hM'=>trivial) (fun w' hb' hM'=>trivial) ?_
    clear hR hM; intro a31 w32 hR hb33 hM
    replace hB:=hB.tr hb33
    exact ⟨xs.length-(k+1),by omega,k+1,rfl,by omega,hR.keep (ts:=[0,1,5]) (by kernel_rfl),hB,SX.cells_sub hM [] (by kernel_rfl),trivial⟩
  ·skip
   refine wp_exit ?_
   refine hK11 _ _ ?_
   refine wp_seq_k fun K34 hK34=>?_
   refine SX.region_q0 [.ld []] [0,1,4,5] [(.e 0 (.slice Au xs.length ku)),(.e 1 (.slice Av xs.length kv)),(.e 4 (.bool true)),(.e 5 (.I ((k:Nat):Int)))] hR hM mix (by kernel_rfl) (by kernel_rfl) (by kernel_rfl) (by kernel_rfl) ?_
   clear hR hM; intro a35 w36 hR hb37 hM
   replace hB:=hB.tr hb37
   refine hK34 _ _ ?_
   refine wp_ret ?_
   try simp only [Exit.then,Exit.inBlock,Nat.reduceEqDiff,↓reduceIte]
   refine SX.ret_ 4 (.bool true) Try.results28 hR (by kernel_rfl) ?_
   clear hR hM mix hK1 hb4 hK5 hK6 hb9 hK11 hK12 hb15 hm18 hK19 hK20 hb23 hK34 hb37
   exact ⟨rfl,hB⟩

set_option maxHeartbeats 400000 in
theorem listC_any (u v:Value) (xs:List (Int × Int × Int)) (w:World) (hu:RecsAt w u xs) (hv:RecsAt w v xs):Calls Try.prog 52 #[u,v] w fun e w'=>e=.returned (.bool (true))∧Below w.heap.size w w':=by
 have hu0:=hu
 have hv0:=hv
 obtain ⟨Au,ku,rfl,su⟩:=hu.shape
 obtain ⟨Av,kv,rfl,sv⟩:=hv.shape
 unfold Shape at su sv
 have mix:=mixed
 have hB:Below w.heap.size w w:=Below.refl _ _
 have hM:SX.Cells w []:=SX.cells_nil
 refine SX.enter [(.slice Au xs.length ku),(.slice Av xs.length kv)] 26 Try.func52 rfl rfl (by kernel_rfl) ?_
 intro a hR
 refine wp_seq_k fun K1 hK1=>?_
 refine SX.region_q0 [.ld []] [0,1] [(.e 0 (.slice Au xs.length ku)),(.e 1 (.slice Av xs.length kv))] hR hM mix (by kernel_rfl) (by kernel_rfl) (by kernel_rfl) (by kernel_rfl) ?_
 clear hR hM; intro a2 w3 hR hb4 hM
 replace hB:=hB.tr hb4
 refine hK1 _ _ ?_
 refine wp_seq_k fun K5 hK5=>?_
 refine wp_seq_k fun K6 hK6=>?_
 refine SX.region_q0 [.ld [],.ld [],.ld [],.ld [],.ld []] [0,1,10] [(.e 0 (.slice Au xs.length ku)),(.e 1 (.slice Av xs.length kv)),(.e 10 (.bool (((xs.length:Nat):Int) != ((xs.length:Nat):Int))))] hR hM mix (by kernel_rfl) (by kernel_rfl) (by kernel_rfl) (by kernel_rfl) ?_
 clear hR hM; intro a7 w8 hR hb9 hM
 replace hB:=hB.tr hb9
 refine hK6 _ _ ?_
 refine SX.cond_ (((xs.length:Nat):Int) != ((xs.length:Nat):Int)) hR (by kernel_rfl) (fun h10=>?_) (fun h10=>?_)
 ·skip
  exact absurd h10 (by simp)
 ·skip
  refine wp_skip ?_
  refine hK5 _ _ ?_
  refine wp_seq_k fun K11 hK11=>?_
  refine wp_seq_k fun K12 hK12=>?_
  refine SX.region_q0 [.ld []] [0,1,5] [(.e 0 (.slice Au xs.length ku)),(.e 1 (.slice Av xs.length kv)),(.e 5 (.I 0))] hR hM mix (by kernel_rfl) (by kernel_rfl) (by kernel_rfl) (by kernel_rfl) ?_
  clear hR hM; intro a13 w14 hR hb15 hM
  replace hB:=hB.tr hb15
  refine hK12 _ _ ?_
  refine wp_block ?_
  refine wp_loop_ghost (fun m18 a' w'=>∃ k:Nat,m18=xs.length-k∧k≤xs.length∧SX.RSt 26 [] [(.e 0 (.slice Au xs.length ku)),(.e 1 (.slice Av xs.length kv)),(.e 5 (.I ((k:Nat):Int)))] a'∧Below w.heap.size w w'∧SX.Cells w' []∧True) (xs.length-0) ⟨0,rfl,Nat.zero_le _,hR.keep (ts:=[0,1,5]) (by kernel_rfl),hB,hM,trivial⟩ ?_
  clear hR hM hB
  rintro m18 a16 w17 ⟨k,hm18,hlek,hR,hB,hM,hIk⟩
  refine wp_seq_k fun K19 hK19=>?_
  refine wp_seq_k fun K20 hK20=>?_
  refine SX.region_q0 [.ld [],.ld [],.ld [],.ld []] [0,1,5,14] [(.e 0 (.slice Au xs.length ku)),(.e 1 (.slice Av xs.length kv)),(.e 5 (.I ((k:Nat):Int))),(.e 14 (.bool (decide (((k:Nat):Int)<((xs.length:Nat):Int)))))] hR hM mix (by kernel_rfl) (by kernel_rfl) (by kernel_rfl) (by kernel_rfl) ?_
  clear hR hM; intro a21 w22 hR hb23 hM
  replace hB:=hB.tr hb23
  refine hK20 _ _ ?_
  refine SX.cond_ (decide (((k:Nat):Int)<((xs.length:Nat):Int))) hR (by kernel_rfl) (fun h24=>?_) (fun h24=>?_)
  ·skip
   refine wp_skip ?_
   refine hK19 _ _ ?_
   refine wp_seq_k fun K25 hK25=>?_
   refine wp_block ?_
   refine wp_seq_k fun K26 hK26=>?_
   have hlt:k<xs.length:=lt_of_dec h24
   obtain ⟨y,hy⟩:=get_of_lt hlt
   obtain ⟨rby,roy,hAy,hiy,cr0y,cr1y,cr2y⟩:=hu0.elem hy
   subst hAy
   have hoy:rby<w.heap.size:=World.block_lt_of_cell? w _ cr0y
   replace hM:=(SX.cells_add (cell_below hB cr0y) (SX.cells_add (cell_below hB cr1y) (SX.cells_add (cell_below hB cr2y) hM)))
   obtain ⟨rbz,roz,hAz,hiz,cr0z,cr1z,cr2z⟩:=hv0.elem hy
   subst hAz
   have hoz:rbz<w.heap.size:=World.block_lt_of_cell? w _ cr0z
   replace hM:=(SX.cells_add (cell_below hB cr0z) (SX.cells_add (cell_below hB cr1z) (SX.cells_add (cell_below hB cr2z) hM)))
   refine SX.region_q [] [.ld [],.ld [],.ix ⟨rby,roy+k*3,none⟩,.ld [3,4,5],.ld [],.ld [],.ix ⟨rbz,roz+k*3,none⟩,.ld [0,1,2],.hd (.bool false)] [0,1,5,25] [(.e 0 (.slice (some ⟨rby,roy,none⟩) xs.length ku)),(.e 1 (.slice (some ⟨rbz,roz,none⟩) xs.length kv)),(.e 5 (.I ((k:Nat):Int))),(.e 25 (.bool false))] [([],⟨rby,roy,none⟩,xs.length,((k:Nat):Int),3,⟨rby,roy+k*3,none⟩),([],⟨rbz,roz,none⟩,xs.length,((k:Nat):Int),3,⟨rbz,roz+k*3,none⟩)] [([],binS .neq 99 (.tmp 20) (.tmp 24) (.agg #[.I y.1,.I y.2.1,.I y.2.2]) (.agg #[.I y.1,.I y.2.1,.I y.2.2]),(.bool false))] [] [] hR hM mix (by kernel_rfl) (by kernel_rfl) (by kernel_rfl) (by kernel_rfl) ⟨fun hg=>SX.ix_ok (by omega),fun hg=>SX.ix_ok (by omega),trivial⟩ trivial (fun w' hb' hM'=>⟨fun hg=>self_ne99 _ _ _ _ _ _,trivial⟩) (fun w' hb' hM'=>trivial) ?_
   clear hR hM; intro a27 w28 hR hb29 hM
   replace hB:=hB.tr hb29
   refine hK26 _ _ ?_
   refine SX.cond_ false hR (by kernel_rfl) (fun h30=>nomatch h30) (fun h30=>?_)
   refine wp_skip ?_
   refine hK25 _ _ ?_
   refine SX.region_q [] [.ld [],.nm (.I ((k+1:Nat):Int)),.ld []] [0,1,5] [(.e 0 (.slice (some ⟨rby,roy,none⟩) xs.length ku)),(.e 1 (.slice (some ⟨rbz,roz,none⟩) xs.length kv)),(.e 5 (.I ((k+1:Nat):Int)))] [] [] [] [([],(.I (IntKind.i64.wrap (((k:Nat):Int)+1))),(.I ((k+1:Nat):Int)))] hR hM mix (by kernel_rfl) (by kernel_rfl) (by kernel_rfl) (by kernel_rfl) trivial ⟨fun hg=>SX.wrap_ok (by omega),trivial⟩ (fun w' hb' hM'=>trivial) (fun w' hb' hM'=>trivial) ?_
   clear hR hM; intro a31 w32 hR hb33 hM
   replace hB:=hB.tr hb33
   exact ⟨xs.length-(k+1),by omega,k+1,rfl,by omega,hR.keep (ts:=[0,1,5]) (by kernel_rfl),hB,SX.cells_sub hM [] (by kernel_rfl),trivial⟩
  ·skip
   refine wp_exit ?_
   refine hK11 _ _ ?_
   refine wp_seq_k fun K34 hK34=>?_
   refine SX.region_q0 [.ld []] [0,1,4,5] [(.e 0 (.slice Au xs.length ku)),(.e 1 (.slice Av xs.length kv)),(.e 4 (.bool true)),(.e 5 (.I ((k:Nat):Int)))] hR hM mix (by kernel_rfl) (by kernel_rfl) (by kernel_rfl) (by kernel_rfl) ?_
   clear hR hM; intro a35 w36 hR hb37 hM
   replace hB:=hB.tr hb37
   refine hK34 _ _ ?_
   refine wp_ret ?_
   try simp only [Exit.then,Exit.inBlock,Nat.reduceEqDiff,↓reduceIte]
   refine SX.ret_ 4 (.bool true) Try.results52 hR (by kernel_rfl) ?_
   clear hR hM mix hK1 hb4 hK5 hK6 hb9 hK11 hK12 hb15 hm18 hK19 hK20 hb23 hK34 hb37
   exact ⟨rfl,hB⟩

set_option maxHeartbeats 400000 in
theorem listO_any (u v:Value) (xs:List (Int × Int × Int)) (w:World) (hu:RecsAt w u xs) (hv:RecsAt w v xs):Calls Try.prog 53 #[u,v] w fun e w'=>e=.returned (.bool (true))∧Below w.heap.size w w':=by
 have hu0:=hu
 have hv0:=hv
 obtain ⟨Au,ku,rfl,su⟩:=hu.shape
 obtain ⟨Av,kv,rfl,sv⟩:=hv.shape
 unfold Shape at su sv
 have mix:=mixed
 have hB:Below w.heap.size w w:=Below.refl _ _
 have hM:SX.Cells w []:=SX.cells_nil
 refine SX.enter [(.slice Au xs.length ku),(.slice Av xs.length kv)] 26 Try.func53 rfl rfl (by kernel_rfl) ?_
 intro a hR
 refine wp_seq_k fun K1 hK1=>?_
 refine SX.region_q0 [.ld []] [0,1] [(.e 0 (.slice Au xs.length ku)),(.e 1 (.slice Av xs.length kv))] hR hM mix (by kernel_rfl) (by kernel_rfl) (by kernel_rfl) (by kernel_rfl) ?_
 clear hR hM; intro a2 w3 hR hb4 hM
 replace hB:=hB.tr hb4
 refine hK1 _ _ ?_
 refine wp_seq_k fun K5 hK5=>?_
 refine wp_seq_k fun K6 hK6=>?_
 refine SX.region_q0 [.ld [],.ld [],.ld [],.ld [],.ld []] [0,1,10] [(.e 0 (.slice Au xs.length ku)),(.e 1 (.slice Av xs.length kv)),(.e 10 (.bool (((xs.length:Nat):Int) != ((xs.length:Nat):Int))))] hR hM mix (by kernel_rfl) (by kernel_rfl) (by kernel_rfl) (by kernel_rfl) ?_
 clear hR hM; intro a7 w8 hR hb9 hM
 replace hB:=hB.tr hb9
 refine hK6 _ _ ?_
 refine SX.cond_ (((xs.length:Nat):Int) != ((xs.length:Nat):Int)) hR (by kernel_rfl) (fun h10=>?_) (fun h10=>?_)
 ·skip
  exact absurd h10 (by simp)
 ·skip
  refine wp_skip ?_
  refine hK5 _ _ ?_
  refine wp_seq_k fun K11 hK11=>?_
  refine wp_seq_k fun K12 hK12=>?_
  refine SX.region_q0 [.ld []] [0,1,5] [(.e 0 (.slice Au xs.length ku)),(.e 1 (.slice Av xs.length kv)),(.e 5 (.I 0))] hR hM mix (by kernel_rfl) (by kernel_rfl) (by kernel_rfl) (by kernel_rfl) ?_
  clear hR hM; intro a13 w14 hR hb15 hM
  replace hB:=hB.tr hb15
  refine hK12 _ _ ?_
  refine wp_block ?_
  refine wp_loop_ghost (fun m18 a' w'=>∃ k:Nat,m18=xs.length-k∧k≤xs.length∧SX.RSt 26 [] [(.e 0 (.slice Au xs.length ku)),(.e 1 (.slice Av xs.length kv)),(.e 5 (.I ((k:Nat):Int)))] a'∧Below w.heap.size w w'∧SX.Cells w' []∧True) (xs.length-0) ⟨0,rfl,Nat.zero_le _,hR.keep (ts:=[0,1,5]) (by kernel_rfl),hB,hM,trivial⟩ ?_
  clear hR hM hB
  rintro m18 a16 w17 ⟨k,hm18,hlek,hR,hB,hM,hIk⟩
  refine wp_seq_k fun K19 hK19=>?_
  refine wp_seq_k fun K20 hK20=>?_
  refine SX.region_q0 [.ld [],.ld [],.ld [],.ld []] [0,1,5,14] [(.e 0 (.slice Au xs.length ku)),(.e 1 (.slice Av xs.length kv)),(.e 5 (.I ((k:Nat):Int))),(.e 14 (.bool (decide (((k:Nat):Int)<((xs.length:Nat):Int)))))] hR hM mix (by kernel_rfl) (by kernel_rfl) (by kernel_rfl) (by kernel_rfl) ?_
  clear hR hM; intro a21 w22 hR hb23 hM
  replace hB:=hB.tr hb23
  refine hK20 _ _ ?_
  refine SX.cond_ (decide (((k:Nat):Int)<((xs.length:Nat):Int))) hR (by kernel_rfl) (fun h24=>?_) (fun h24=>?_)
  ·skip
   refine wp_skip ?_
   refine hK19 _ _ ?_
   refine wp_seq_k fun K25 hK25=>?_
   refine wp_block ?_
   refine wp_seq_k fun K26 hK26=>?_
   have hlt:k<xs.length:=lt_of_dec h24
   obtain ⟨y,hy⟩:=get_of_lt hlt
   obtain ⟨rby,roy,hAy,hiy,cr0y,cr1y,cr2y⟩:=hu0.elem hy
   subst hAy
   have hoy:rby<w.heap.size:=World.block_lt_of_cell? w _ cr0y
   replace hM:=(SX.cells_add (cell_below hB cr0y) (SX.cells_add (cell_below hB cr1y) (SX.cells_add (cell_below hB cr2y) hM)))
   obtain ⟨rbz,roz,hAz,hiz,cr0z,cr1z,cr2z⟩:=hv0.elem hy
   subst hAz
   have hoz:rbz<w.heap.size:=World.block_lt_of_cell? w _ cr0z
   replace hM:=(SX.cells_add (cell_below hB cr0z) (SX.cells_add (cell_below hB cr1z) (SX.cells_add (cell_below hB cr2z) hM)))
   refine SX.region_q [] [.ld [],.ld [],.ix ⟨rby,roy+k*3,none⟩,.ld [3,4,5],.ld [],.ld [],.ix ⟨rbz,roz+k*3,none⟩,.ld [0,1,2],.hd (.bool false)] [0,1,5,25] [(.e 0 (.slice (some ⟨rby,roy,none⟩) xs.length ku)),(.e 1 (.slice (some ⟨rbz,roz,none⟩) xs.length kv)),(.e 5 (.I ((k:Nat):Int))),(.e 25 (.bool false))] [([],⟨rby,roy,none⟩,xs.length,((k:Nat):Int),3,⟨rby,roy+k*3,none⟩),([],⟨rbz,roz,none⟩,xs.length,((k:Nat):Int),3,⟨rbz,roz+k*3,none⟩)] [([],binS .neq 102 (.tmp 20) (.tmp 24) (.agg #[.I y.1,.I y.2.1,.I y.2.2]) (.agg #[.I y.1,.I y.2.1,.I y.2.2]),(.bool false))] [] [] hR hM mix (by kernel_rfl) (by kernel_rfl) (by kernel_rfl) (by kernel_rfl) ⟨fun hg=>SX.ix_ok (by omega),fun hg=>SX.ix_ok (by omega),trivial⟩ trivial (fun w' hb' hM'=>⟨fun hg=>self_ne102 _ _ _ _ _ _,trivial⟩) (fun w' hb' hM'=>trivial) ?_
   clear hR hM; intro a27 w28 hR hb29 hM
   replace hB:=hB.tr hb29
   refine hK26 _ _ ?_
   refine SX.cond_ false hR (by kernel_rfl) (fun h30=>nomatch h30) (fun h30=>?_)
   refine wp_skip ?_
   refine hK25 _ _ ?_
   refine SX.region_q [] [.ld [],.nm (.I ((k+1:Nat):Int)),.ld []] [0,1,5] [(.e 0 (.slice (some ⟨rby,roy,none⟩) xs.length ku)),(.e 1 (.slice (some ⟨rbz,roz,none⟩) xs.length kv)),(.e 5 (.I ((k+1:Nat):Int)))] [] [] [] [([],(.I (IntKind.i64.wrap (((k:Nat):Int)+1))),(.I ((k+1:Nat):Int)))] hR hM mix (by kernel_rfl) (by kernel_rfl) (by kernel_rfl) (by kernel_rfl) trivial ⟨fun hg=>SX.wrap_ok (by omega),trivial⟩ (fun w' hb' hM'=>trivial) (fun w' hb' hM'=>trivial) ?_
   clear hR hM; intro a31 w32 hR hb33 hM
   replace hB:=hB.tr hb33
   exact ⟨xs.length-(k+1),by omega,k+1,rfl,by omega,hR.keep (ts:=[0,1,5]) (by kernel_rfl),hB,SX.cells_sub hM [] (by kernel_rfl),trivial⟩
  ·skip
   refine wp_exit ?_
   refine hK11 _ _ ?_
   refine wp_seq_k fun K34 hK34=>?_
   refine SX.region_q0 [.ld []] [0,1,4,5] [(.e 0 (.slice Au xs.length ku)),(.e 1 (.slice Av xs.length kv)),(.e 4 (.bool true)),(.e 5 (.I ((k:Nat):Int)))] hR hM mix (by kernel_rfl) (by kernel_rfl) (by kernel_rfl) (by kernel_rfl) ?_
   clear hR hM; intro a35 w36 hR hb37 hM
   replace hB:=hB.tr hb37
   refine hK34 _ _ ?_
   refine wp_ret ?_
   try simp only [Exit.then,Exit.inBlock,Nat.reduceEqDiff,↓reduceIte]
   refine SX.ret_ 4 (.bool true) Try.results53 hR (by kernel_rfl) ?_
   clear hR hM mix hK1 hb4 hK5 hK6 hb9 hK11 hK12 hb15 hm18 hK19 hK20 hb23 hK34 hb37
   exact ⟨rfl,hB⟩

set_option maxHeartbeats 400000 in
theorem listP_any (u v:Value) (xs:List OpD) (w:World) (hu:OpsAt w u xs) (hv:OpsAt w v xs):Calls Try.prog 54 #[u,v] w fun e w'=>e=.returned (.bool (true))∧Below w.heap.size w w':=by
 have hu0:=hu
 have hv0:=hv
 obtain ⟨Au,ku,rfl,su⟩:=hu.shape
 obtain ⟨Av,kv,rfl,sv⟩:=hv.shape
 unfold Shape at su sv
 have mix:=mixed
 have hB:Below w.heap.size w w:=Below.refl _ _
 have hM:SX.Cells w []:=SX.cells_nil
 refine SX.enter [(.slice Au xs.length ku),(.slice Av xs.length kv)] 26 Try.func54 rfl rfl (by kernel_rfl) ?_
 intro a hR
 refine wp_seq_k fun K1 hK1=>?_
 refine SX.region_q0 [.ld []] [0,1] [(.e 0 (.slice Au xs.length ku)),(.e 1 (.slice Av xs.length kv))] hR hM mix (by kernel_rfl) (by kernel_rfl) (by kernel_rfl) (by kernel_rfl) ?_
 clear hR hM; intro a2 w3 hR hb4 hM
 replace hB:=hB.tr hb4
 refine hK1 _ _ ?_
 refine wp_seq_k fun K5 hK5=>?_
 refine wp_seq_k fun K6 hK6=>?_
 refine SX.region_q0 [.ld [],.ld [],.ld [],.ld [],.ld []] [0,1,10] [(.e 0 (.slice Au xs.length ku)),(.e 1 (.slice Av xs.length kv)),(.e 10 (.bool (((xs.length:Nat):Int) != ((xs.length:Nat):Int))))] hR hM mix (by kernel_rfl) (by kernel_rfl) (by kernel_rfl) (by kernel_rfl) ?_
 clear hR hM; intro a7 w8 hR hb9 hM
 replace hB:=hB.tr hb9
 refine hK6 _ _ ?_
 refine SX.cond_ (((xs.length:Nat):Int) != ((xs.length:Nat):Int)) hR (by kernel_rfl) (fun h10=>?_) (fun h10=>?_)
 ·skip
  exact absurd h10 (by simp)
 ·skip
  refine wp_skip ?_
  refine hK5 _ _ ?_
  refine wp_seq_k fun K11 hK11=>?_
  refine wp_seq_k fun K12 hK12=>?_
  refine SX.region_q0 [.ld []] [0,1,5] [(.e 0 (.slice Au xs.length ku)),(.e 1 (.slice Av xs.length kv)),(.e 5 (.I 0))] hR hM mix (by kernel_rfl) (by kernel_rfl) (by kernel_rfl) (by kernel_rfl) ?_
  clear hR hM; intro a13 w14 hR hb15 hM
  replace hB:=hB.tr hb15
  refine hK12 _ _ ?_
  refine wp_block ?_
  refine wp_loop_ghost (fun m18 a' w'=>∃ k:Nat,m18=xs.length-k∧k≤xs.length∧SX.RSt 26 [] [(.e 0 (.slice Au xs.length ku)),(.e 1 (.slice Av xs.length kv)),(.e 5 (.I ((k:Nat):Int)))] a'∧Below w.heap.size w w'∧SX.Cells w' []∧True) (xs.length-0) ⟨0,rfl,Nat.zero_le _,hR.keep (ts:=[0,1,5]) (by kernel_rfl),hB,hM,trivial⟩ ?_
  clear hR hM hB
  rintro m18 a16 w17 ⟨k,hm18,hlek,hR,hB,hM,hIk⟩
  refine wp_seq_k fun K19 hK19=>?_
  refine wp_seq_k fun K20 hK20=>?_
  refine SX.region_q0 [.ld [],.ld [],.ld [],.ld []] [0,1,5,14] [(.e 0 (.slice Au xs.length ku)),(.e 1 (.slice Av xs.length kv)),(.e 5 (.I ((k:Nat):Int))),(.e 14 (.bool (decide (((k:Nat):Int)<((xs.length:Nat):Int)))))] hR hM mix (by kernel_rfl) (by kernel_rfl) (by kernel_rfl) (by kernel_rfl) ?_
  clear hR hM; intro a21 w22 hR hb23 hM
  replace hB:=hB.tr hb23
  refine hK20 _ _ ?_
  refine SX.cond_ (decide (((k:Nat):Int)<((xs.length:Nat):Int))) hR (by kernel_rfl) (fun h24=>?_) (fun h24=>?_)
  ·skip
   refine wp_skip ?_
   refine hK19 _ _ ?_
   refine wp_seq_k fun K25 hK25=>?_
   refine wp_block ?_
   refine wp_seq_k fun K26 hK26=>?_
   have hlt:k<xs.length:=lt_of_dec h24
   obtain ⟨y,hy⟩:=get_of_lt hlt
   obtain ⟨oby,ooy,hAy,hiy,co0y,co1y,co2y,co3y,co4y,co5y,co6y,co7y,co8y,co9y,co10y⟩:=hu0.elem hy
   subst hAy
   have hoy:oby<w.heap.size:=World.block_lt_of_cell? w _ co0y
   replace hM:=(SX.cells_add (cell_below hB co0y) (SX.cells_add (cell_below hB co1y) (SX.cells_add (cell_below hB co2y) (SX.cells_add (cell_below hB co3y) (SX.cells_add (cell_below hB co4y) (SX.cells_add (cell_below hB co5y) (SX.cells_add (cell_below hB co6y) (SX.cells_add (cell_below hB co7y) (SX.cells_add (cell_below hB co8y) (SX.cells_add (cell_below hB co9y) (SX.cells_add (cell_below hB co10y) hM)))))))))))
   obtain ⟨obz,ooz,hAz,hiz,co0z,co1z,co2z,co3z,co4z,co5z,co6z,co7z,co8z,co9z,co10z⟩:=hv0.elem hy
   subst hAz
   have hoz:obz<w.heap.size:=World.block_lt_of_cell? w _ co0z
   replace hM:=(SX.cells_add (cell_below hB co0z) (SX.cells_add (cell_below hB co1z) (SX.cells_add (cell_below hB co2z) (SX.cells_add (cell_below hB co3z) (SX.cells_add (cell_below hB co4z) (SX.cells_add (cell_below hB co5z) (SX.cells_add (cell_below hB co6z) (SX.cells_add (cell_below hB co7z) (SX.cells_add (cell_below hB co8z) (SX.cells_add (cell_below hB co9z) (SX.cells_add (cell_below hB co10z) hM)))))))))))
   refine SX.region_q [] [.ld [],.ld [],.ix ⟨oby,ooy+k*11,none⟩,.ld [11,12,13,14,15,16,17,18,19,20,21],.ld [],.ld [],.ix ⟨obz,ooz+k*11,none⟩,.ld [0,1,2,3,4,5,6,7,8,9,10],.hd (.bool false)] [0,1,5,25] [(.e 0 (.slice (some ⟨oby,ooy,none⟩) xs.length ku)),(.e 1 (.slice (some ⟨obz,ooz,none⟩) xs.length kv)),(.e 5 (.I ((k:Nat):Int))),(.e 25 (.bool false))] [([],⟨oby,ooy,none⟩,xs.length,((k:Nat):Int),11,⟨oby,ooy+k*11,none⟩),([],⟨obz,ooz,none⟩,xs.length,((k:Nat):Int),11,⟨obz,ooz+k*11,none⟩)] [([],binS .neq 74 (.tmp 20) (.tmp 24) (.agg #[.I y.kind,.I y.dst,.I y.a,.I y.b,.I y.n,.I y.ctx,.I y.var,.I y.piece,.I y.sk,.I y.sv,.I y.sa]) (.agg #[.I y.kind,.I y.dst,.I y.a,.I y.b,.I y.n,.I y.ctx,.I y.var,.I y.piece,.I y.sk,.I y.sv,.I y.sa]),(.bool false))] [] [] hR hM mix (by kernel_rfl) (by kernel_rfl) (by kernel_rfl) (by kernel_rfl) ⟨fun hg=>SX.ix_ok (by omega),fun hg=>SX.ix_ok (by omega),trivial⟩ trivial (fun w' hb' hM'=>⟨fun hg=>self_ne74 _ _ _ _ _ _ _ _ _ _ _ _ _ _,trivial⟩) (fun w' hb' hM'=>trivial) ?_
   clear hR hM; intro a27 w28 hR hb29 hM
   replace hB:=hB.tr hb29
   refine hK26 _ _ ?_
   refine SX.cond_ false hR (by kernel_rfl) (fun h30=>nomatch h30) (fun h30=>?_)
   refine wp_skip ?_
   refine hK25 _ _ ?_
   refine SX.region_q [] [.ld [],.nm (.I ((k+1:Nat):Int)),.ld []] [0,1,5] [(.e 0 (.slice (some ⟨oby,ooy,none⟩) xs.length ku)),(.e 1 (.slice (some ⟨obz,ooz,none⟩) xs.length kv)),(.e 5 (.I ((k+1:Nat):Int)))] [] [] [] [([],(.I (IntKind.i64.wrap (((k:Nat):Int)+1))),(.I ((k+1:Nat):Int)))] hR hM mix (by kernel_rfl) (by kernel_rfl) (by kernel_rfl) (by kernel_rfl) trivial ⟨fun hg=>SX.wrap_ok (by omega),trivial⟩ (fun w' hb' hM'=>trivial) (fun w' hb' hM'=>trivial) ?_
   clear hR hM; intro a31 w32 hR hb33 hM
   replace hB:=hB.tr hb33
   exact ⟨xs.length-(k+1),by omega,k+1,rfl,by omega,hR.keep (ts:=[0,1,5]) (by kernel_rfl),hB,SX.cells_sub hM [] (by kernel_rfl),trivial⟩
  ·skip
   refine wp_exit ?_
   refine hK11 _ _ ?_
   refine wp_seq_k fun K34 hK34=>?_
   refine SX.region_q0 [.ld []] [0,1,4,5] [(.e 0 (.slice Au xs.length ku)),(.e 1 (.slice Av xs.length kv)),(.e 4 (.bool true)),(.e 5 (.I ((k:Nat):Int)))] hR hM mix (by kernel_rfl) (by kernel_rfl) (by kernel_rfl) (by kernel_rfl) ?_
   clear hR hM; intro a35 w36 hR hb37 hM
   replace hB:=hB.tr hb37
   refine hK34 _ _ ?_
   refine wp_ret ?_
   try simp only [Exit.then,Exit.inBlock,Nat.reduceEqDiff,↓reduceIte]
   refine SX.ret_ 4 (.bool true) Try.results54 hR (by kernel_rfl) ?_
   clear hR hM mix hK1 hb4 hK5 hK6 hb9 hK11 hK12 hb15 hm18 hK19 hK20 hb23 hK34 hb37
   exact ⟨rfl,hB⟩
end Go.Proofs.Ytlkcidmmpeebeaa
