/- Proved: merge.joinable on plain data -/
import Derived.Test.YtlkcidmmpeebeaaMgE
set_option linter.unusedVariables false
set_option linter.unusedSimpArgs false
namespace Go.Proofs.Ytlkcidmmpeebeaa
open Go.RowKit Go.PX
set_option maxRecDepth 100000
def oneI (c:CodeD):Option Nat:=(List.range c.blocks.length).find? (fun k=>match c.blocks[k]? with | some y=>!stayD c k y | none=>false)
theorem oneI_no {c:CodeD} {k:Nat} (h:Upto c.blocks (fun i b=>stayD c i b) k) (hk:c.blocks.length≤k):oneI c=none:=by
 unfold oneI
 rw [List.find?_eq_none]
 intro i hi
 have hi:=List.mem_range.1 hi
 rw [List.getElem?_eq_getElem hi]
 have:=h i _ (by omega) (List.getElem?_eq_getElem hi)
 simpa using this
theorem oneI_at {c:CodeD} {k:Nat} {y:BlockD} (h:Upto c.blocks (fun i b=>stayD c i b) k) (hy:c.blocks[k]?=some y) (hs:stayD c k y=false):oneI c=some k:=by
 have hk:=(List.getElem?_eq_some_iff.1 hy).1
 unfold oneI
 rw [List.find?_eq_some_iff_getElem]
 refine ⟨by simp [hy,hs],k,by simpa using hk,by simp,fun j hj=>?_⟩
 have hj':j<c.blocks.length:=by omega
 have:=h j _ hj (List.getElem?_eq_getElem hj')
 simp only [List.getElem_range,List.getElem?_eq_getElem hj',this]; rfl
theorem stay_kind {c:CodeD} {k:Nat} {y:BlockD} (h:(y.term.kind != 1)=true):stayD c k y=true:=by unfold stayD stayT; rw [h]; rfl
theorem stay_pair {c:CodeD} {k j:Nat} {y x:BlockD} (hx:c.blocks[j]?=some x) (hk:y.term.kind=1) (hj:y.term.b0=(j:Int)):stayD c k y=!(((y.term.b0 != (k:Int))&&(edgesK c (j:Int) c.blocks.length==1))&&joinOk y x):=by
 have e:y.term.b0.toNat=j:=by omega
 unfold stayD stayT
 rw [e,hx,hj,hk]
 simp only [bne,Bool.not_and,Bool.not_not,beq_self_eq_true,Bool.not_true,Bool.false_or]

set_option maxHeartbeats 400000 in
theorem con_f111 (c:CodeD):PX.Con Try.prog 111 [(codeP c)] [] 1 100000 (.fn 147 [] [.ptr 1 0]) [(1,some (.box 26 (codeL c)))]:=by
 refine PX.con_intro [(codeP c)] 4 Try.func111 rfl rfl (by kernel_rfl) (by kernel_rfl) ?_
 intro E a hE hS
 generalize E.w0=w at hS ⊢
 have mix:=mixed
 refine PX.G [(.e 1 (.ptr 1 0))] [(1,.box 26 (codeL c))] 2 [] [] [.au,.au] [1] [1] hS hE trivial fun a w hS=>?_
 refine PX.G [(.e 2 (.fn 147 [] [(.ptr 1 0)]))] [] 2 [] [] [.au,.au] [2] [1] hS hE trivial fun a w hS=>?_
 refine wp_ret ?_
 exact PX.rt hS hE (.inl rfl)

set_option maxHeartbeats 2000000 in
theorem con_f75 (c:CodeD) (hJ:JOk c) (hed:∀ (k:Nat) (y:BlockD),c.blocks[k]?=some y→y.term.b0<(c.blocks.length:Int)∧y.term.b1<(c.blocks.length:Int)):PX.Con Try.prog 75 [(codeP c)] [] 1 100000 (.tup [.sc (.I (((oneI c).getD 0:Nat):Int)),.sc (.bool (oneI c).isSome)]) []:=by
 refine PX.con_intro_w (n:=5) [(codeP c)] 63 Try.func75 rfl rfl (by kernel_rfl) rfl ?_
 intro E a hE hS
 obtain ⟨w,hw0⟩:∃ w,w=E.w0:=⟨_,rfl⟩
 rw [← hw0] at hS ⊢
 have mix:=mixed; have hlen4:=hJ.len
 refine PX.Gw [(.e 1 (.ptr 1 0))] [(1,.box 26 (codeL c))] 2 [] [] [.au,.au,.au] [1] [1] hS hE trivial fun a w hS=>?_
 refine PX.Gw [(.e 4 (.ptr 3 0))] [(2,.row 3 1 true (List.replicate c.blocks.length [(.J 0)])),(3,.box 35 [(.own 2 1 c.blocks.length)])] 4 [.q ((.sc (.I (((c.blocks.map encB).length:Nat):Int)):PX.PV)=(.sc (.I (c.blocks.length:Int)))),.q ((c.blocks.length:Int)=(c.blocks.length:Nat)),.q ((c.blocks.length:Int)=(c.blocks.length:Nat)),.b (Nat.ble c.blocks.length 1000000000)] [] [.au,.au,.nm (.sc (.I (c.blocks.length:Int))),.mk c.blocks.length,.au,.au] [1,4] [1,2,3] hS hE ⟨PX.nm_len (by simp),rfl,rfl,by rw [Nat.ble_eq]; omega,trivial⟩ fun a w hS=>?_
 refine wpIn_seq_k fun K1 hK1=>?_
 refine PX.Gw [(.e 14 (.fn 147 [] [(.ptr 4 0)]))] [(4,.box 26 (codeL c))] 5 [.q (PX.Con Try.prog 111 [(codeP c)] [] 4 5 (.fn 147 [] [(.ptr 4 0)]) [(4,some (.box 26 (codeL c)))])] [] [.au,.cl [] (.fn 147 [] [(.ptr 4 0)]) [(4,some (.box 26 (codeL c)))] 5] [1,4,14] [1,2,3,4] hS hE ⟨PX.con_as [(4,1)] [(1,4)] (con_f111 c) (by kernel_rfl) (by kernel_rfl) (by kernel_rfl) (by kernel_rfl) (by kernel_rfl) (by kernel_rfl),trivial⟩ fun a w hS=>?_
 refine wpIn_block ?_
 rw [show (List.replicate c.blocks.length [(.J 0)])=(cntE c.blocks []).map encI from by simp [cntE,encI]] at hS
 have hsz1:E.w0.heap.size≤w.heap.size:=by obtain ⟨_,_,q⟩:=hS; exact q.chg.size
 have hNt1:a.tmps.size=63:=by obtain ⟨_,_,q⟩:=hS; exact q.rs.size
 have hE0:=hE; have hszA:=hsz1
 refine range_edg (bl:=c.blocks) (c0:=(.J c.params)) (c2:=(.imm 3 (c.contexts.map encR))) (c3:=(.imm 3 (c.objects.map encR))) (d:=5) (n:=5) hS hE.etop (by decide) 4 (by kernel_rfl) (by kernel_rfl) [1,4] [1,2,3] (by kernel_rfl:PX.keepR _ [1,4]=some [(.e 1 (.ptr 1 0)),(.e 4 (.ptr 3 0))]) (fun _=>True) trivial (fun pre=>[(1,.box 26 (codeL c)),(2,.row 3 1 true ((cntE c.blocks (pre)).map encI)),(3,.box 35 [(.own 2 1 c.blocks.length)])]) (by kernel_rfl) (by kernel_rfl) (fun pre id o h ho=>PX.shape_mp (by kernel_rfl) h ho) (by decide) (by kernel_rfl) ?asg ?body ?done
 case asg=>exact fun l v W K hK=>PX.asg_region (by simp [hNt1]) hK
 case body =>
  rintro l pre x E w a hpre hpn hE hS
  obtain ⟨y,hy,her,hx0,hxy⟩:=edX_at x
  have hedy:=hed _ y hy
  rw [her] at hS
  rcases hxy with ⟨hm,hxe⟩ | ⟨hm,hxe⟩
  ·skip
   rw [hm] at hS
   replace hS:PX.Sat E 63 [(.e 5 (.iptr (encB y) 6)),(.e 1 (.ptr 1 0)),(.e 4 (.ptr 3 0))] [(1,.box 26 (codeL c)),(2,.row 3 1 true ((cntE c.blocks (pre)).map encI)),(3,.box 35 [(.own 2 1 c.blocks.length)])] 5 _ w:=hS
   have hx1:0≤y.term.b0:=hxe ▸ hx0
   obtain ⟨z,hz⟩:=get_of_lt (show y.term.b0.toNat<(cntE c.blocks pre).length by rw [cntE_len]; omega)
   refine wpIn_block ?_
   refine PX.D0w [(.e 16 (.own 2 1 c.blocks.length)),(.e 17 (.iptr (encB y) 6)),(.e 18 (.iptr (encB y) 6)),(.e 19 (.iptr (encB y) 6)),(.e 20 (.J y.term.b0)),(.e 21 (.rptr 2 1 y.term.b0.toNat 0)),(.e 22 (.J z)),(.e 23 (.sc (.I (IntKind.i64.wrap (z+1))))),(.e 24 (.rptr 2 1 y.term.b0.toNat 0))] [(2,.row 3 1 true (((cntE c.blocks (pre)).map encI).set y.term.b0.toNat [(.sc (.I (IntKind.i64.wrap (z+1))))]))] 5 [.q (y.term.b0=(y.term.b0.toNat:Int)),.q (y.term.b0.toNat<c.blocks.length),.q (((cntE c.blocks (pre)).map encI)[y.term.b0.toNat]?=some (encI z)),.q (y.term.b0=(y.term.b0.toNat:Int)),.q (y.term.b0.toNat<c.blocks.length),.q (((cntE c.blocks (pre)).map encI)[y.term.b0.toNat]?=some (encI z))] [] [.au,.au,.au,.au,.au,.ix y.term.b0.toNat [],.lr (encI z),.au,.ix y.term.b0.toNat [],.lr (encI z)] [1,4,5,16,17,18,19,20,21,22,23,24] [1,2,3] hS mixed hE ⟨by omega,by omega,PX.map_get hz,by omega,by omega,PX.map_get hz,trivial⟩ fun a w hS=>?_
   rw [show (((cntE c.blocks (pre)).map encI).set y.term.b0.toNat [(.sc (.I (IntKind.i64.wrap (z+1))))])=(cntE c.blocks (pre++[x])).map encI from by rw [cntE_snoc,hxe]; exact bumpM_yes hx1 hz] at hS
   replace hS:=PX.sl [] hS
   exact And.intro trivial (PX.Sat.with0 (PX.cn [] [] [(1,.box 26 (codeL c)),(2,.row 3 1 true ((cntE c.blocks (pre++[x])).map encI)),(3,.box 35 [(.own 2 1 c.blocks.length)])] 5 hS hE))
  ·skip
   rw [hm] at hS
   replace hS:PX.Sat E 63 [(.e 5 (.iptr (encB y) 8)),(.e 1 (.ptr 1 0)),(.e 4 (.ptr 3 0))] [(1,.box 26 (codeL c)),(2,.row 3 1 true ((cntE c.blocks (pre)).map encI)),(3,.box 35 [(.own 2 1 c.blocks.length)])] 5 _ w:=hS
   have hx1:0≤y.term.b1:=hxe ▸ hx0
   obtain ⟨z,hz⟩:=get_of_lt (show y.term.b1.toNat<(cntE c.blocks pre).length by rw [cntE_len]; omega)
   refine wpIn_block ?_
   refine PX.D0w [(.e 16 (.own 2 1 c.blocks.length)),(.e 17 (.iptr (encB y) 8)),(.e 18 (.iptr (encB y) 8)),(.e 19 (.iptr (encB y) 8)),(.e 20 (.J y.term.b1)),(.e 21 (.rptr 2 1 y.term.b1.toNat 0)),(.e 22 (.J z)),(.e 23 (.sc (.I (IntKind.i64.wrap (z+1))))),(.e 24 (.rptr 2 1 y.term.b1.toNat 0))] [(2,.row 3 1 true (((cntE c.blocks (pre)).map encI).set y.term.b1.toNat [(.sc (.I (IntKind.i64.wrap (z+1))))]))] 5 [.q (y.term.b1=(y.term.b1.toNat:Int)),.q (y.term.b1.toNat<c.blocks.length),.q (((cntE c.blocks (pre)).map encI)[y.term.b1.toNat]?=some (encI z)),.q (y.term.b1=(y.term.b1.toNat:Int)),.q (y.term.b1.toNat<c.blocks.length),.q (((cntE c.blocks (pre)).map encI)[y.term.b1.toNat]?=some (encI z))] [] [.au,.au,.au,.au,.au,.ix y.term.b1.toNat [],.lr (encI z),.au,.ix y.term.b1.toNat [],.lr (encI z)] [1,4,5,16,17,18,19,20,21,22,23,24] [1,2,3] hS mixed hE ⟨by omega,by omega,PX.map_get hz,by omega,by omega,PX.map_get hz,trivial⟩ fun a w hS=>?_
   rw [show (((cntE c.blocks (pre)).map encI).set y.term.b1.toNat [(.sc (.I (IntKind.i64.wrap (z+1))))])=(cntE c.blocks (pre++[x])).map encI from by rw [cntE_snoc,hxe]; exact bumpM_yes hx1 hz] at hS
   replace hS:=PX.sl [] hS
   exact And.intro trivial (PX.Sat.with0 (PX.cn [] [] [(1,.box 26 (codeL c)),(2,.row 3 1 true ((cntE c.blocks (pre++[x])).map encI)),(3,.box 35 [(.own 2 1 c.blocks.length)])] 5 hS hE))
 case done =>
  rintro D1 xs w E hD1 hxs hpn1 hN1 hE hS hd1 hw1
  rw [show cntE c.blocks xs=cntP c.blocks (2*c.blocks.length) from by rw [cntE_map,hxs] <;> rfl] at hS
  replace hS:PX.Sat E 63 [(.e 1 (.ptr 1 0)),(.e 4 (.ptr 3 0))] [(1,.box 26 (codeL c)),(2,.row 3 1 true ((cntP c.blocks (2*c.blocks.length)).map encI)),(3,.box 35 [(.own 2 1 c.blocks.length)])] 5 _ w:=hS
  clear hsz1
  refine hK1 _ _ ?_
  refine wpIn_seq_k fun K2 hK2=>?_
  refine PX.Gw [(.e 26 (.imm 10 (c.blocks.map encB))),(.e 27 (.sc (.I (c.blocks.length:Int)))),(.e 28 (.J 0))] [] 5 [.q ((.sc (.I (((c.blocks.map encB).length:Nat):Int)):PX.PV)=(.sc (.I (c.blocks.length:Int))))] [] [.au,.au,.nm (.sc (.I (c.blocks.length:Int))),.au] [1,4,26,27,28] [1,2,3] hS hE ⟨PX.nm_len (by simp),trivial⟩ fun a w hS=>?_
  refine wpIn_block ?_
  refine PX.loop_w (fun m3 a' w'=>∃ k:Nat,m3=c.blocks.length-k∧k≤c.blocks.length∧Upto c.blocks (fun i b=>stayD c i b) (k)∧PX.Sat E 63 [(.e 1 (.ptr 1 0)),(.e 4 (.ptr 3 0)),(.e 26 (.imm 10 (c.blocks.map encB))),(.e 27 (.sc (.I (c.blocks.length:Int)))),(.e 28 (.sc (.I (k:Int))))] [(1,.box 26 (codeL c)),(2,.row 3 1 true ((cntP c.blocks (2*c.blocks.length)).map encI)),(3,.box 35 [(.own 2 1 c.blocks.length)])] 5 a' w') (c.blocks.length-0) ⟨0,rfl,Nat.zero_le _,Upto.zero,(PX.cn [] _ _ 5 hS hE)⟩ ?_
  clear hS; rintro m3 a w ⟨k,hm3,hlek,hIk,hS⟩
  refine PX.Gw [(.e 29 (.sc (.bool (decide ((k:Int)<(c.blocks.length:Int))))))] [] 5 [] [] [.au] [1,4,26,27,28,29] [1,2,3] hS hE trivial fun a w hS=>?_
  refine wpIn_seq_k fun K4 hK4=>?_
  refine PX.cond_w (decide ((k:Int)<(c.blocks.length:Int))) hS (by kernel_rfl) (fun h5=>?_) (fun h5=>?_)
  ·skip
   refine wpIn_skip ?_
   refine hK4 _ _ ?_
   refine wpIn_seq_k fun K6 hK6=>?_
   refine wpIn_block ?_
   have hlty:k<c.blocks.length:=by simpa using h5
   obtain ⟨y,hy⟩:=get_of_lt hlty
   obtain ⟨x,j,hx,hj⟩:=hJ.jump k y hy
   obtain ⟨hyp,hyo,hyt,hytop⟩:=hJ.blk k y hy
   obtain ⟨hxp,hxo,hxt,hxtop⟩:=hJ.blk j x hx
   have hjl:=(List.getElem?_eq_some_iff.1 hx).1
   refine PX.Gw [(.e 6 (.sc (.I (k:Int)))),(.e 7 (.ptr 5 0))] [(5,.box 62 (encB y))] 6 [.q ((k:Int)=(k:Int)),.q ((c.blocks.map encB)[k]?=some (encB y))] [] [.au,.ix k (encB y),.au,.au,.au,.au] [1,4,6,7,26,27,28] [1,2,3,5] hS hE ⟨rfl,PX.map_get hy,trivial⟩ fun a w hS=>?_
   refine wpIn_seq_k fun K7 hK7=>?_
   refine PX.Gw [(.e 36 (.sc (.bool (y.term.kind != 1))))] [] 6 [] [] [.au,.au,.au,.au] [1,4,6,7,26,27,28,36] [1,2,3,5] hS hE trivial fun a w hS=>?_
   refine PX.cond_w (y.term.kind != 1) hS (by kernel_rfl) (fun h8=>?_) (fun h8=>?_)
   ·skip
    refine wpIn_exit ?_
    refine hK6 _ _ ?_
    refine PX.G0w [(.e 28 (.sc (.I ((k+1:Nat):Int))))] [] 6 [.q ((.sc (.I (IntKind.i64.wrap ((k:Int)+1))):PX.PV)=(.sc (.I ((k+1:Nat):Int))))] [] [.nm (.sc (.I ((k+1:Nat):Int))),.au] [1,4,26,27,28] [1,2,3] hS hE ⟨PX.nm_int (by rw [IntWalk.i64_in _ (by omega)]; omega),trivial⟩ fun a w hS=>?_
    exact ⟨c.blocks.length-(k+1),by omega,_,rfl,k+1,rfl,by omega,hIk.step hy (stay_kind h8),(PX.cn [] _ _ 5 hS hE)⟩
   ·skip
    refine wpIn_skip ?_
    refine hK7 _ _ ?_
    refine PX.Gw [(.e 8 (.J y.term.b0))] [] 6 [] [] [.au,.au,.au,.au,.au,.au] [1,4,6,7,8,26,27,28] [1,2,3,5] hS hE trivial fun a w hS=>?_
    have hk1:y.term.kind=1:=by simpa using h8
    have hjj:y.term.b0=(j:Int):=(hj hk1).symm
    refine PX.Dw [(.e 60 (.sc (.bool (((y.term.b0 != (k:Int))&&((edgesK c (j:Int) c.blocks.length)==1))&&(joinOk y x)))))] [] 6 [.q (SX.pv [(3,(y.term.b0 != (k:Int))),(10,((y.term.b0 != (k:Int))&&((edgesK c (j:Int) c.blocks.length)==1)))] [(3,true)]=true→PX.AllOb [.q (y.term.b0=(j:Int)),.q (j<c.blocks.length)]),.q (SX.pv [(3,(y.term.b0 != (k:Int))),(10,((y.term.b0 != (k:Int))&&((edgesK c (j:Int) c.blocks.length)==1)))] [(3,true)]=true→PX.AllOb [.q (((cntP c.blocks (2*c.blocks.length)).map encI)[j]?=some (encI (edgesK c (j:Int) c.blocks.length)))]),.q (SX.pv [(3,(y.term.b0 != (k:Int))),(10,((y.term.b0 != (k:Int))&&((edgesK c (j:Int) c.blocks.length)==1)))] [(10,true)]=true→PX.AllOb [.q (y.term.b0=(j:Int)),.q ((c.blocks.map encB)[j]?=some (encB x))]),.q (SX.pv [(3,(y.term.b0 != (k:Int))),(10,((y.term.b0 != (k:Int))&&((edgesK c (j:Int) c.blocks.length)==1)))] [(10,true)]=true→PX.AllOb [.q (PX.Con Try.prog 112 [(.agg (encB y)),(.agg (encB x))] [] 6 6 (.sc (.bool (joinOk y x))) [])])] [(3,(y.term.b0 != (k:Int))),(10,((y.term.b0 != (k:Int))&&((edgesK c (j:Int) c.blocks.length)==1)))] [.au,.au,.au,.au,.au,.au,.ix j [],.lr (encI (edgesK c (j:Int) c.blocks.length)),.au,.pk,.au,.au,.au,.au,.au,.ix j (encB x),.au,.cl [] (.sc (.bool (joinOk y x))) [] 6,.pk] [1,4,6,26,27,28,60] [1,2,3] hS mixed hE ⟨fun hg=>⟨by omega,hjl,trivial⟩,fun hg=>⟨PX.map_get (cntP_get c hjl _ (Nat.le_refl _)),trivial⟩,fun hg=>⟨hjj,PX.map_get hx,trivial⟩,fun hg=>⟨PX.con_any (con_f112 y x hyp hyo hxo hytop),trivial⟩,trivial⟩ fun a w hS=>?_
    refine PX.cond_w (((y.term.b0 != (k:Int))&&((edgesK c (j:Int) c.blocks.length)==1))&&(joinOk y x)) hS (by kernel_rfl) (fun h9=>?_) (fun h9=>?_)
    ·skip
     refine PX.Gw [(.e 2 (.sc (.I (k:Int)))),(.e 3 (.sc (.bool true)))] [] 6 [] [] [.au,.au,.au] [1,2,3,4,26,27,28] [1,2,3] hS hE trivial fun a w hS=>?_
     refine wpIn_ret ?_
     have hS0:=(hN1.2.2 _ _ _ _ _ _ hS).1
     have hd1f:=(hN1.2.2 _ _ _ _ _ _ hS).2 D1 _ hd1
     rw [show PX.PV.tup [.sc (.I (((oneI c).getD 0:Nat):Int)),.sc (.bool (oneI c).isSome)]=((.tup [.sc (.I (k:Int)),.sc (.bool true)]):PX.PV) from by rw [oneI_at hIk hy (by rw [stay_pair hx hk1 hjj,h9]; rfl)] <;> rfl]
     exact PX.ret_w (a:=a) [D1] hS0 hE0 (by simp) (fun D hD=>by
      simp only [List.mem_cons,List.not_mem_nil,or_false] at hD
      subst hD
      exact ⟨by omega,hd1f⟩) (by kernel_rfl) (by kernel_rfl) (by kernel_rfl) (by kernel_rfl)
    ·skip
     refine wpIn_skip ?_
     refine hK6 _ _ ?_
     refine PX.G0w [(.e 28 (.sc (.I ((k+1:Nat):Int))))] [] 6 [.q ((.sc (.I (IntKind.i64.wrap ((k:Int)+1))):PX.PV)=(.sc (.I ((k+1:Nat):Int))))] [] [.nm (.sc (.I ((k+1:Nat):Int))),.au] [1,4,26,27,28] [1,2,3] hS hE ⟨PX.nm_int (by rw [IntWalk.i64_in _ (by omega)]; omega),trivial⟩ fun a w hS=>?_
     exact ⟨c.blocks.length-(k+1),by omega,_,rfl,k+1,rfl,by omega,hIk.step hy (by rw [stay_pair hx hk1 hjj,h9]; rfl),(PX.cn [] _ _ 5 hS hE)⟩
  ·skip
   refine wpIn_exit ?_
   refine hK2 _ _ ?_
   refine PX.Gw [(.e 2 (.J 0)),(.e 3 (.sc (.bool false)))] [] 5 [] [] [.au,.au] [2,3] [] hS hE trivial fun a w hS=>?_
   refine wpIn_ret ?_
   have hS0:=(hN1.2.2 _ _ _ _ _ _ hS).1
   have hd1f:=(hN1.2.2 _ _ _ _ _ _ hS).2 D1 _ hd1
   rw [show PX.PV.tup [.sc (.I (((oneI c).getD 0:Nat):Int)),.sc (.bool (oneI c).isSome)]=((.tup [.sc (.I 0),.sc (.bool false)]):PX.PV) from by rw [oneI_no hIk (le_of_dec h5)] <;> rfl]
   exact PX.ret_w (a:=a) [D1] hS0 hE0 (by simp) (fun D hD=>by
    simp only [List.mem_cons,List.not_mem_nil,or_false] at hD
    subst hD
    exact ⟨by omega,hd1f⟩) (by kernel_rfl) (by kernel_rfl) (by kernel_rfl) (by kernel_rfl)
end Go.Proofs.Ytlkcidmmpeebeaa
