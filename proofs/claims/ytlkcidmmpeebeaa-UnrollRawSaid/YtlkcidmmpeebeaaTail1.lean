/- Proved: returns,isTail,List -/
import Derived.Test.YtlkcidmmpeebeaaEdge2
set_option linter.unusedVariables false
set_option linter.unusedSimpArgs false
namespace Go.Proofs.Ytlkcidmmpeebeaa
open Go.RowKit
set_option maxRecDepth 100000
def retB (b:BlockD):Bool:=b.ops.all (fun o=>!(o.kind != 21&&o.kind != 20))&&(b.term.kind==4&&b.term.a==0)
def isTailD (c:CodeD) (t:TermD):Bool:=if ((t.kind != 3)||decide (0≤t.b1))||decide ((0:Int)<(t.args0.length:Int)) then false else match c.blocks[t.b0.toNat]? with | some b=>retB b | none=>false

theorem self_ne99 (i j:Nat) (x0 x1 x2:Int) (w:World):(binS .neq 99 (.tmp i) (.tmp j) (.agg #[.I x0,.I x1,.I x2]) (.agg #[.I x0,.I x1,.I x2])).run Try.prog w=.ok (.value (.bool false)) w:=by
 unfold binS
 simp [go_sem,eqGuard,Try.underlying99]

theorem self_ne102 (i j:Nat) (x0 x1 x2:Int) (w:World):(binS .neq 102 (.tmp i) (.tmp j) (.agg #[.I x0,.I x1,.I x2]) (.agg #[.I x0,.I x1,.I x2])).run Try.prog w=.ok (.value (.bool false)) w:=by
 unfold binS
 simp [go_sem,eqGuard,Try.underlying102]

theorem self_ne74 (i j:Nat) (x0 x1 x2 x3 x4 x5 x6 x7 x8 x9 x10:Int) (w:World):(binS .neq 74 (.tmp i) (.tmp j) (.agg #[.I x0,.I x1,.I x2,.I x3,.I x4,.I x5,.I x6,.I x7,.I x8,.I x9,.I x10]) (.agg #[.I x0,.I x1,.I x2,.I x3,.I x4,.I x5,.I x6,.I x7,.I x8,.I x9,.I x10])).run Try.prog w=.ok (.value (.bool false)) w:=by
 unfold binS
 simp [go_sem,eqGuard,Try.underlying74,Try.underlying72]

set_option maxHeartbeats 400000 in
theorem listI_any (u v:Value) (xs:List Int) (w:World) (hu:IntsAt w u xs) (hv:IntsAt w v xs):Calls Try.prog 28 #[u,v] w fun e w'=>e=.returned (.bool (true))∧Below w.heap.size w w':=by
 have hu0:=hu
 have hv0:=hv
 obtain ⟨Au,ku,rfl,su⟩:=hu.shape
 obtain ⟨Av,kv,rfl,sv⟩:=hv.shape
 unfold Shape at su sv
 have mix:=mixed
 have hB:Below w.heap.size w w:=Below.refl _ _
 have hM:SX.Cells w []:=SX.cells_nil
 refine SX.enter [(.slice Au xs.length ku),(.slice Av xs.length kv)] 26 Try.func28 rfl rfl (by kernel_rfl) ?_
 intro a hR
 refine SX.qs [.ld []] [0,1] [] hR hM hB mix fun a1 w2 hR hb3 hB hM=>?_
 refine wp_seq_k fun K4 hK4=>?_
 refine SX.qs [.ld [],.ld [],.ld [],.ld [],.ld []] [0,1,10] [(.e 10 (.bool ((xs.length:Int) != (xs.length:Int))))] hR hM hB mix fun a5 w6 hR hb7 hB hM=>?_
 refine SX.cond_ ((xs.length:Int) != (xs.length:Int)) hR (by kernel_rfl) (fun h8=>?_) (fun h8=>?_)
 ·skip
  exact absurd h8 (by simp)
 ·skip
  refine wp_skip ?_
  refine hK4 _ _ ?_
  refine wp_seq_k fun K9 hK9=>?_
  refine SX.qs [.ld []] [0,1,5] [(.e 5 (.I 0))] hR hM hB mix fun a10 w11 hR hb12 hB hM=>?_
  refine wp_block ?_
  refine wp_loop_ghost (fun m15 a' w'=>∃ k:Nat,m15=xs.length-k∧k≤xs.length∧SX.RSt 26 [] [(.e 0 (.slice Au xs.length ku)),(.e 1 (.slice Av xs.length kv)),(.e 5 (.I (k:Int)))] a'∧Below w.heap.size w w'∧SX.Cells w' []∧True) (xs.length-0) ⟨0,rfl,Nat.zero_le _,hR.keep (ts:=[0,1,5]) (by kernel_rfl),hB,hM,trivial⟩ ?_
  clear hR hM hB
  rintro m15 a13 w14 ⟨k,hm15,hlek,hR,hB,hM,hIk⟩
  refine wp_seq_k fun K16 hK16=>?_
  refine SX.qs [.ld [],.ld [],.ld [],.ld []] [0,1,5,14] [(.e 14 (.bool (decide ((k:Int)<(xs.length:Int)))))] hR hM hB mix fun a17 w18 hR hb19 hB hM=>?_
  refine SX.cond_ (decide ((k:Int)<(xs.length:Int))) hR (by kernel_rfl) (fun h20=>?_) (fun h20=>?_)
  ·skip
   refine wp_skip ?_
   refine hK16 _ _ ?_
   refine wp_seq_k fun K21 hK21=>?_
   refine wp_block ?_
   have hlt:k<xs.length:=lt_of_dec h20
   obtain ⟨y,hy⟩:=get_of_lt hlt
   obtain ⟨iby,ioy,hAy,hiy,ciy⟩:=hu0.elem hy
   subst hAy
   have hoy:iby<w.heap.size:=World.block_lt_of_cell? w _ ciy
   replace hM:=(SX.cells_add (cell_below hB ciy) hM)
   obtain ⟨ibz,ioz,hAz,hiz,ciz⟩:=hv0.elem hy
   subst hAz
   have hoz:ibz<w.heap.size:=World.block_lt_of_cell? w _ ciz
   replace hM:=(SX.cells_add (cell_below hB ciz) hM)
   refine SX.qf [] [.ld [],.ld [],.ix ⟨iby,ioy+k*1,none⟩,.ld [1],.ld [],.ld [],.ix ⟨ibz,ioz+k*1,none⟩,.ld [0],.ld []] [0,1,5,25] [(.e 25 (.bool (y != y)))] [([],⟨iby,ioy,none⟩,xs.length,(k:Int),1,⟨iby,ioy+k*1,none⟩),([],⟨ibz,ioz,none⟩,xs.length,(k:Int),1,⟨ibz,ioz+k*1,none⟩)] [] [] [] hR hM hB mix ⟨fun hg=>SX.ix_ok (by omega),fun hg=>SX.ix_ok (by omega),trivial⟩ trivial (fun w' hb' hM'=>trivial) (fun w' hb' hM'=>trivial) fun a22 w23 hR hb24 hB hM=>?_
   refine SX.cond_ (y != y) hR (by kernel_rfl) (fun h25=>?_) (fun h25=>?_)
   ·skip
    exact absurd h25 (by simp)
   ·skip
    refine wp_skip ?_
    refine hK21 _ _ ?_
    refine SX.qf0 [] [.ld [],.nm (.I ((k+1:Nat):Int)),.ld []] [0,1,5] [(.e 5 (.I ((k+1:Nat):Int)))] [] [] [] [([],(.I (IntKind.i64.wrap ((k:Int)+1))),(.I ((k+1:Nat):Int)))] hR hM hB mix trivial ⟨fun hg=>SX.wrap_ok (by omega),trivial⟩ (fun w' hb' hM'=>trivial) (fun w' hb' hM'=>trivial) fun a26 w27 hR hb28 hB hM=>?_
    exact ⟨xs.length-(k+1),by omega,k+1,rfl,by omega,hR.keep (ts:=[0,1,5]) (by kernel_rfl),hB,SX.cells_sub hM [] (by kernel_rfl),trivial⟩
  ·skip
   refine wp_exit ?_
   refine hK9 _ _ ?_
   refine SX.qs [.ld []] [0,1,4,5] [(.e 4 (.bool true))] hR hM hB mix fun a29 w30 hR hb31 hB hM=>?_
   refine wp_ret ?_
   try simp only [Exit.then,Exit.inBlock,Nat.reduceEqDiff,↓reduceIte]
   refine SX.ret_ 4 (.bool true) Try.results28 hR (by kernel_rfl) ?_
   clear hR hM mix hb3 hK4 hb7 hK9 hb12 hm15 hK16 hb19 hb31
   exact ⟨rfl,hB⟩

set_option maxHeartbeats 400000 in
theorem listC_any (u v:Value) (xs:List (Int × Int × Int)) (w:World) (hu:RecsAt w u xs) (hv:RecsAt w v xs):Calls Try.prog 52 #[u,v] w fun e w'=>e=.returned (.bool (true))∧Below w.heap.size w w':=by
 have hu0:=hu
 have hv0:=hv
 obtain ⟨Au,ku,rfl,su⟩:=hu.shape
 obtain ⟨Av,kv,rfl,sv⟩:=hv.shape
 unfold Shape at su sv
 have mix:=mixed
 have hB:Below w.heap.size w w:=Below.refl _ _
 have hM:SX.Cells w []:=SX.cells_nil
 refine SX.enter [(.slice Au xs.length ku),(.slice Av xs.length kv)] 26 Try.func52 rfl rfl (by kernel_rfl) ?_
 intro a hR
 refine SX.qs [.ld []] [0,1] [] hR hM hB mix fun a1 w2 hR hb3 hB hM=>?_
 refine wp_seq_k fun K4 hK4=>?_
 refine SX.qs [.ld [],.ld [],.ld [],.ld [],.ld []] [0,1,10] [(.e 10 (.bool ((xs.length:Int) != (xs.length:Int))))] hR hM hB mix fun a5 w6 hR hb7 hB hM=>?_
 refine SX.cond_ ((xs.length:Int) != (xs.length:Int)) hR (by kernel_rfl) (fun h8=>?_) (fun h8=>?_)
 ·skip
  exact absurd h8 (by simp)
 ·skip
  refine wp_skip ?_
  refine hK4 _ _ ?_
  refine wp_seq_k fun K9 hK9=>?_
  refine SX.qs [.ld []] [0,1,5] [(.e 5 (.I 0))] hR hM hB mix fun a10 w11 hR hb12 hB hM=>?_
  refine wp_block ?_
  refine wp_loop_ghost (fun m15 a' w'=>∃ k:Nat,m15=xs.length-k∧k≤xs.length∧SX.RSt 26 [] [(.e 0 (.slice Au xs.length ku)),(.e 1 (.slice Av xs.length kv)),(.e 5 (.I (k:Int)))] a'∧Below w.heap.size w w'∧SX.Cells w' []∧True) (xs.length-0) ⟨0,rfl,Nat.zero_le _,hR.keep (ts:=[0,1,5]) (by kernel_rfl),hB,hM,trivial⟩ ?_
  clear hR hM hB
  rintro m15 a13 w14 ⟨k,hm15,hlek,hR,hB,hM,hIk⟩
  refine wp_seq_k fun K16 hK16=>?_
  refine SX.qs [.ld [],.ld [],.ld [],.ld []] [0,1,5,14] [(.e 14 (.bool (decide ((k:Int)<(xs.length:Int)))))] hR hM hB mix fun a17 w18 hR hb19 hB hM=>?_
  refine SX.cond_ (decide ((k:Int)<(xs.length:Int))) hR (by kernel_rfl) (fun h20=>?_) (fun h20=>?_)
  ·skip
   refine wp_skip ?_
   refine hK16 _ _ ?_
   refine wp_seq_k fun K21 hK21=>?_
   refine wp_block ?_
   have hlt:k<xs.length:=lt_of_dec h20
   obtain ⟨y,hy⟩:=get_of_lt hlt
   obtain ⟨rby,roy,hAy,hiy,cr0y,cr1y,cr2y⟩:=hu0.elem hy
   subst hAy
   have hoy:rby<w.heap.size:=World.block_lt_of_cell? w _ cr0y
   replace hM:=(SX.cells_add (cell_below hB cr0y) (SX.cells_add (cell_below hB cr1y) (SX.cells_add (cell_below hB cr2y) hM)))
   obtain ⟨rbz,roz,hAz,hiz,cr0z,cr1z,cr2z⟩:=hv0.elem hy
   subst hAz
   have hoz:rbz<w.heap.size:=World.block_lt_of_cell? w _ cr0z
   replace hM:=(SX.cells_add (cell_below hB cr0z) (SX.cells_add (cell_below hB cr1z) (SX.cells_add (cell_below hB cr2z) hM)))
   refine SX.qf [] [.ld [],.ld [],.ix ⟨rby,roy+k*3,none⟩,.ld [3,4,5],.ld [],.ld [],.ix ⟨rbz,roz+k*3,none⟩,.ld [0,1,2],.hd (.bool false)] [0,1,5,25] [(.e 25 (.bool false))] [([],⟨rby,roy,none⟩,xs.length,(k:Int),3,⟨rby,roy+k*3,none⟩),([],⟨rbz,roz,none⟩,xs.length,(k:Int),3,⟨rbz,roz+k*3,none⟩)] [([],binS .neq 99 (.tmp 20) (.tmp 24) (.agg #[.I y.1,.I y.2.1,.I y.2.2]) (.agg #[.I y.1,.I y.2.1,.I y.2.2]),(.bool false))] [] [] hR hM hB mix ⟨fun hg=>SX.ix_ok (by omega),fun hg=>SX.ix_ok (by omega),trivial⟩ trivial (fun w' hb' hM'=>⟨fun hg=>self_ne99 _ _ _ _ _ _,trivial⟩) (fun w' hb' hM'=>trivial) fun a22 w23 hR hb24 hB hM=>?_
   refine SX.cond_ false hR (by kernel_rfl) (fun h25=>nomatch h25) (fun h25=>?_)
   refine wp_skip ?_
   refine hK21 _ _ ?_
   refine SX.qf0 [] [.ld [],.nm (.I ((k+1:Nat):Int)),.ld []] [0,1,5] [(.e 5 (.I ((k+1:Nat):Int)))] [] [] [] [([],(.I (IntKind.i64.wrap ((k:Int)+1))),(.I ((k+1:Nat):Int)))] hR hM hB mix trivial ⟨fun hg=>SX.wrap_ok (by omega),trivial⟩ (fun w' hb' hM'=>trivial) (fun w' hb' hM'=>trivial) fun a26 w27 hR hb28 hB hM=>?_
   exact ⟨xs.length-(k+1),by omega,k+1,rfl,by omega,hR.keep (ts:=[0,1,5]) (by kernel_rfl),hB,SX.cells_sub hM [] (by kernel_rfl),trivial⟩
  ·skip
   refine wp_exit ?_
   refine hK9 _ _ ?_
   refine SX.qs [.ld []] [0,1,4,5] [(.e 4 (.bool true))] hR hM hB mix fun a29 w30 hR hb31 hB hM=>?_
   refine wp_ret ?_
   try simp only [Exit.then,Exit.inBlock,Nat.reduceEqDiff,↓reduceIte]
   refine SX.ret_ 4 (.bool true) Try.results52 hR (by kernel_rfl) ?_
   clear hR hM mix hb3 hK4 hb7 hK9 hb12 hm15 hK16 hb19 hb31
   exact ⟨rfl,hB⟩

set_option maxHeartbeats 400000 in
theorem listO_any (u v:Value) (xs:List (Int × Int × Int)) (w:World) (hu:RecsAt w u xs) (hv:RecsAt w v xs):Calls Try.prog 53 #[u,v] w fun e w'=>e=.returned (.bool (true))∧Below w.heap.size w w':=by
 have hu0:=hu
 have hv0:=hv
 obtain ⟨Au,ku,rfl,su⟩:=hu.shape
 obtain ⟨Av,kv,rfl,sv⟩:=hv.shape
 unfold Shape at su sv
 have mix:=mixed
 have hB:Below w.heap.size w w:=Below.refl _ _
 have hM:SX.Cells w []:=SX.cells_nil
 refine SX.enter [(.slice Au xs.length ku),(.slice Av xs.length kv)] 26 Try.func53 rfl rfl (by kernel_rfl) ?_
 intro a hR
 refine SX.qs [.ld []] [0,1] [] hR hM hB mix fun a1 w2 hR hb3 hB hM=>?_
 refine wp_seq_k fun K4 hK4=>?_
 refine SX.qs [.ld [],.ld [],.ld [],.ld [],.ld []] [0,1,10] [(.e 10 (.bool ((xs.length:Int) != (xs.length:Int))))] hR hM hB mix fun a5 w6 hR hb7 hB hM=>?_
 refine SX.cond_ ((xs.length:Int) != (xs.length:Int)) hR (by kernel_rfl) (fun h8=>?_) (fun h8=>?_)
 ·skip
  exact absurd h8 (by simp)
 ·skip
  refine wp_skip ?_
  refine hK4 _ _ ?_
  refine wp_seq_k fun K9 hK9=>?_
  refine SX.qs [.ld []] [0,1,5] [(.e 5 (.I 0))] hR hM hB mix fun a10 w11 hR hb12 hB hM=>?_
  refine wp_block ?_
  refine wp_loop_ghost (fun m15 a' w'=>∃ k:Nat,m15=xs.length-k∧k≤xs.length∧SX.RSt 26 [] [(.e 0 (.slice Au xs.length ku)),(.e 1 (.slice Av xs.length kv)),(.e 5 (.I (k:Int)))] a'∧Below w.heap.size w w'∧SX.Cells w' []∧True) (xs.length-0) ⟨0,rfl,Nat.zero_le _,hR.keep (ts:=[0,1,5]) (by kernel_rfl),hB,hM,trivial⟩ ?_
  clear hR hM hB
  rintro m15 a13 w14 ⟨k,hm15,hlek,hR,hB,hM,hIk⟩
  refine wp_seq_k fun K16 hK16=>?_
  refine SX.qs [.ld [],.ld [],.ld [],.ld []] [0,1,5,14] [(.e 14 (.bool (decide ((k:Int)<(xs.length:Int)))))] hR hM hB mix fun a17 w18 hR hb19 hB hM=>?_
  refine SX.cond_ (decide ((k:Int)<(xs.length:Int))) hR (by kernel_rfl) (fun h20=>?_) (fun h20=>?_)
  ·skip
   refine wp_skip ?_
   refine hK16 _ _ ?_
   refine wp_seq_k fun K21 hK21=>?_
   refine wp_block ?_
   have hlt:k<xs.length:=lt_of_dec h20
   obtain ⟨y,hy⟩:=get_of_lt hlt
   obtain ⟨rby,roy,hAy,hiy,cr0y,cr1y,cr2y⟩:=hu0.elem hy
   subst hAy
   have hoy:rby<w.heap.size:=World.block_lt_of_cell? w _ cr0y
   replace hM:=(SX.cells_add (cell_below hB cr0y) (SX.cells_add (cell_below hB cr1y) (SX.cells_add (cell_below hB cr2y) hM)))
   obtain ⟨rbz,roz,hAz,hiz,cr0z,cr1z,cr2z⟩:=hv0.elem hy
   subst hAz
   have hoz:rbz<w.heap.size:=World.block_lt_of_cell? w _ cr0z
   replace hM:=(SX.cells_add (cell_below hB cr0z) (SX.cells_add (cell_below hB cr1z) (SX.cells_add (cell_below hB cr2z) hM)))
   refine SX.qf [] [.ld [],.ld [],.ix ⟨rby,roy+k*3,none⟩,.ld [3,4,5],.ld [],.ld [],.ix ⟨rbz,roz+k*3,none⟩,.ld [0,1,2],.hd (.bool false)] [0,1,5,25] [(.e 25 (.bool false))] [([],⟨rby,roy,none⟩,xs.length,(k:Int),3,⟨rby,roy+k*3,none⟩),([],⟨rbz,roz,none⟩,xs.length,(k:Int),3,⟨rbz,roz+k*3,none⟩)] [([],binS .neq 102 (.tmp 20) (.tmp 24) (.agg #[.I y.1,.I y.2.1,.I y.2.2]) (.agg #[.I y.1,.I y.2.1,.I y.2.2]),(.bool false))] [] [] hR hM hB mix ⟨fun hg=>SX.ix_ok (by omega),fun hg=>SX.ix_ok (by omega),trivial⟩ trivial (fun w' hb' hM'=>⟨fun hg=>self_ne102 _ _ _ _ _ _,trivial⟩) (fun w' hb' hM'=>trivial) fun a22 w23 hR hb24 hB hM=>?_
   refine SX.cond_ false hR (by kernel_rfl) (fun h25=>nomatch h25) (fun h25=>?_)
   refine wp_skip ?_
   refine hK21 _ _ ?_
   refine SX.qf0 [] [.ld [],.nm (.I ((k+1:Nat):Int)),.ld []] [0,1,5] [(.e 5 (.I ((k+1:Nat):Int)))] [] [] [] [([],(.I (IntKind.i64.wrap ((k:Int)+1))),(.I ((k+1:Nat):Int)))] hR hM hB mix trivial ⟨fun hg=>SX.wrap_ok (by omega),trivial⟩ (fun w' hb' hM'=>trivial) (fun w' hb' hM'=>trivial) fun a26 w27 hR hb28 hB hM=>?_
   exact ⟨xs.length-(k+1),by omega,k+1,rfl,by omega,hR.keep (ts:=[0,1,5]) (by kernel_rfl),hB,SX.cells_sub hM [] (by kernel_rfl),trivial⟩
  ·skip
   refine wp_exit ?_
   refine hK9 _ _ ?_
   refine SX.qs [.ld []] [0,1,4,5] [(.e 4 (.bool true))] hR hM hB mix fun a29 w30 hR hb31 hB hM=>?_
   refine wp_ret ?_
   try simp only [Exit.then,Exit.inBlock,Nat.reduceEqDiff,↓reduceIte]
   refine SX.ret_ 4 (.bool true) Try.results53 hR (by kernel_rfl) ?_
   clear hR hM mix hb3 hK4 hb7 hK9 hb12 hm15 hK16 hb19 hb31
   exact ⟨rfl,hB⟩

set_option maxHeartbeats 400000 in
theorem listP_any (u v:Value) (xs:List OpD) (w:World) (hu:OpsAt w u xs) (hv:OpsAt w v xs):Calls Try.prog 54 #[u,v] w fun e w'=>e=.returned (.bool (true))∧Below w.heap.size w w':=by
 have hu0:=hu
 have hv0:=hv
 obtain ⟨Au,ku,rfl,su⟩:=hu.shape
 obtain ⟨Av,kv,rfl,sv⟩:=hv.shape
 unfold Shape at su sv
 have mix:=mixed
 have hB:Below w.heap.size w w:=Below.refl _ _
 have hM:SX.Cells w []:=SX.cells_nil
 refine SX.enter [(.slice Au xs.length ku),(.slice Av xs.length kv)] 26 Try.func54 rfl rfl (by kernel_rfl) ?_
 intro a hR
 refine SX.qs [.ld []] [0,1] [] hR hM hB mix fun a1 w2 hR hb3 hB hM=>?_
 refine wp_seq_k fun K4 hK4=>?_
 refine SX.qs [.ld [],.ld [],.ld [],.ld [],.ld []] [0,1,10] [(.e 10 (.bool ((xs.length:Int) != (xs.length:Int))))] hR hM hB mix fun a5 w6 hR hb7 hB hM=>?_
 refine SX.cond_ ((xs.length:Int) != (xs.length:Int)) hR (by kernel_rfl) (fun h8=>?_) (fun h8=>?_)
 ·skip
  exact absurd h8 (by simp)
 ·skip
  refine wp_skip ?_
  refine hK4 _ _ ?_
  refine wp_seq_k fun K9 hK9=>?_
  refine SX.qs [.ld []] [0,1,5] [(.e 5 (.I 0))] hR hM hB mix fun a10 w11 hR hb12 hB hM=>?_
  refine wp_block ?_
  refine wp_loop_ghost (fun m15 a' w'=>∃ k:Nat,m15=xs.length-k∧k≤xs.length∧SX.RSt 26 [] [(.e 0 (.slice Au xs.length ku)),(.e 1 (.slice Av xs.length kv)),(.e 5 (.I (k:Int)))] a'∧Below w.heap.size w w'∧SX.Cells w' []∧True) (xs.length-0) ⟨0,rfl,Nat.zero_le _,hR.keep (ts:=[0,1,5]) (by kernel_rfl),hB,hM,trivial⟩ ?_
  clear hR hM hB
  rintro m15 a13 w14 ⟨k,hm15,hlek,hR,hB,hM,hIk⟩
  refine wp_seq_k fun K16 hK16=>?_
  refine SX.qs [.ld [],.ld [],.ld [],.ld []] [0,1,5,14] [(.e 14 (.bool (decide ((k:Int)<(xs.length:Int)))))] hR hM hB mix fun a17 w18 hR hb19 hB hM=>?_
  refine SX.cond_ (decide ((k:Int)<(xs.length:Int))) hR (by kernel_rfl) (fun h20=>?_) (fun h20=>?_)
  ·skip
   refine wp_skip ?_
   refine hK16 _ _ ?_
   refine wp_seq_k fun K21 hK21=>?_
   refine wp_block ?_
   have hlt:k<xs.length:=lt_of_dec h20
   obtain ⟨y,hy⟩:=get_of_lt hlt
   obtain ⟨oby,ooy,hAy,hiy,co0y,co1y,co2y,co3y,co4y,co5y,co6y,co7y,co8y,co9y,co10y⟩:=hu0.elem hy
   subst hAy
   have hoy:oby<w.heap.size:=World.block_lt_of_cell? w _ co0y
   replace hM:=(SX.cells_add (cell_below hB co0y) (SX.cells_add (cell_below hB co1y) (SX.cells_add (cell_below hB co2y) (SX.cells_add (cell_below hB co3y) (SX.cells_add (cell_below hB co4y) (SX.cells_add (cell_below hB co5y) (SX.cells_add (cell_below hB co6y) (SX.cells_add (cell_below hB co7y) (SX.cells_add (cell_below hB co8y) (SX.cells_add (cell_below hB co9y) (SX.cells_add (cell_below hB co10y) hM)))))))))))
   obtain ⟨obz,ooz,hAz,hiz,co0z,co1z,co2z,co3z,co4z,co5z,co6z,co7z,co8z,co9z,co10z⟩:=hv0.elem hy
   subst hAz
   have hoz:obz<w.heap.size:=World.block_lt_of_cell? w _ co0z
   replace hM:=(SX.cells_add (cell_below hB co0z) (SX.cells_add (cell_below hB co1z) (SX.cells_add (cell_below hB co2z) (SX.cells_add (cell_below hB co3z) (SX.cells_add (cell_below hB co4z) (SX.cells_add (cell_below hB co5z) (SX.cells_add (cell_below hB co6z) (SX.cells_add (cell_below hB co7z) (SX.cells_add (cell_below hB co8z) (SX.cells_add (cell_below hB co9z) (SX.cells_add (cell_below hB co10z) hM)))))))))))
   refine SX.qf [] [.ld [],.ld [],.ix ⟨oby,ooy+k*11,none⟩,.ld [11,12,13,14,15,16,17,18,19,20,21],.ld [],.ld [],.ix ⟨obz,ooz+k*11,none⟩,.ld [0,1,2,3,4,5,6,7,8,9,10],.hd (.bool false)] [0,1,5,25] [(.e 25 (.bool false))] [([],⟨oby,ooy,none⟩,xs.length,(k:Int),11,⟨oby,ooy+k*11,none⟩),([],⟨obz,ooz,none⟩,xs.length,(k:Int),11,⟨obz,ooz+k*11,none⟩)] [([],binS .neq 74 (.tmp 20) (.tmp 24) (.agg #[.I y.kind,.I y.dst,.I y.a,.I y.b,.I y.n,.I y.ctx,.I y.var,.I y.piece,.I y.sk,.I y.sv,.I y.sa]) (.agg #[.I y.kind,.I y.dst,.I y.a,.I y.b,.I y.n,.I y.ctx,.I y.var,.I y.piece,.I y.sk,.I y.sv,.I y.sa]),(.bool false))] [] [] hR hM hB mix ⟨fun hg=>SX.ix_ok (by omega),fun hg=>SX.ix_ok (by omega),trivial⟩ trivial (fun w' hb' hM'=>⟨fun hg=>self_ne74 _ _ _ _ _ _ _ _ _ _ _ _ _ _,trivial⟩) (fun w' hb' hM'=>trivial) fun a22 w23 hR hb24 hB hM=>?_
   refine SX.cond_ false hR (by kernel_rfl) (fun h25=>nomatch h25) (fun h25=>?_)
   refine wp_skip ?_
   refine hK21 _ _ ?_
   refine SX.qf0 [] [.ld [],.nm (.I ((k+1:Nat):Int)),.ld []] [0,1,5] [(.e 5 (.I ((k+1:Nat):Int)))] [] [] [] [([],(.I (IntKind.i64.wrap ((k:Int)+1))),(.I ((k+1:Nat):Int)))] hR hM hB mix trivial ⟨fun hg=>SX.wrap_ok (by omega),trivial⟩ (fun w' hb' hM'=>trivial) (fun w' hb' hM'=>trivial) fun a26 w27 hR hb28 hB hM=>?_
   exact ⟨xs.length-(k+1),by omega,k+1,rfl,by omega,hR.keep (ts:=[0,1,5]) (by kernel_rfl),hB,SX.cells_sub hM [] (by kernel_rfl),trivial⟩
  ·skip
   refine wp_exit ?_
   refine hK9 _ _ ?_
   refine SX.qs [.ld []] [0,1,4,5] [(.e 4 (.bool true))] hR hM hB mix fun a29 w30 hR hb31 hB hM=>?_
   refine wp_ret ?_
   try simp only [Exit.then,Exit.inBlock,Nat.reduceEqDiff,↓reduceIte]
   refine SX.ret_ 4 (.bool true) Try.results54 hR (by kernel_rfl) ?_
   clear hR hM mix hb3 hK4 hb7 hK9 hb12 hm15 hK16 hb19 hb31
   exact ⟨rfl,hB⟩
end Go.Proofs.Ytlkcidmmpeebeaa
