/- Proved: debuggerref09.Remove -/
import Derived.Test.YtlkcidmmpeebeaaMgD
set_option linter.unusedVariables false
set_option linter.unusedSimpArgs false
namespace Go.Proofs.Ytlkcidmmpeebeaa
open Go.RowKit Go.PX
set_option maxRecDepth 100000
end Go.Proofs.Ytlkcidmmpeebeaa

/- Proved: debuggerref09: one -/
namespace Go.Proofs.Ytlkcidmmpeebeaa
open Go.RowKit Go.PX
set_option maxRecDepth 100000
end Go.Proofs.Ytlkcidmmpeebeaa

/- Proved: debuggerref09.Merge on plain data -/
namespace Go.Proofs.Ytlkcidmmpeebeaa
open Go.RowKit Go.PX
set_option maxRecDepth 100000
theorem merge_stop {n:Nat} {d:CodeD} (h:(oneD d).isSome=false):mergeN n d=d:=by
 cases n with
 | zero=>rfl
 | succ n =>
  rw [mergeN]
  rw [Option.isSome_eq_false_iff,Option.isNone_iff_eq_none] at h
  simp only [h]

end Go.Proofs.Ytlkcidmmpeebeaa

/- Proved: merge: defines,greatest,fits -/
namespace Go.Proofs.Ytlkcidmmpeebeaa
open Go.RowKit Go.PX
set_option maxRecDepth 100000
def grK (b:BlockD) (k:Nat):Int:=(dsts (b.ops.take k)).foldl mx (b.params-1)
theorem grK_yes {b:BlockD} {k:Nat} {y:OpD} (hy:b.ops[k]?=some y) (h:R.defines y.kind=true):grK b (k+1)=mx (grK b k) y.dst:=by
 unfold grK; rw [dsts_take hy,if_pos h,List.foldl_append]; rfl
theorem grK_no {b:BlockD} {k:Nat} {y:OpD} (hy:b.ops[k]?=some y) (h:R.defines y.kind=false):grK b (k+1)=grK b k:=by
 unfold grK; rw [dsts_take hy,if_neg (by rw [h]; simp),List.append_nil]
theorem mx_low:∀ (l:List Int) (n:Int),(∀ v∈l,v≤n)→l.foldl mx n=n
 | [],n,_=>rfl
 | x::l,n,h=>by
  have hx:=h x (by simp)
  have e:mx n x=n:=by unfold mx; rw [if_neg (by omega)]
  rw [List.foldl_cons,e]; exact mx_low l n fun v hv=>h v (by simp [hv])
theorem grK_top {b:BlockD} {k:Nat} (hk:b.ops.length≤k):grK b k=topD b:=by
 unfold grK topD
 rw [values_eq2,List.foldl_append,mx_low (R.upto b.params),List.take_of_length_le hk]
 intro v hv
 unfold R.upto at hv
 obtain ⟨i,hi,rfl⟩:=List.mem_map.1 hv
 have:=List.mem_range.1 hi; omega
def dnK (b:BlockD) (k:Nat):Int:=(((dsts (b.ops.take k)).length:Nat):Int)
theorem dnK_yes {b:BlockD} {k:Nat} {y:OpD} (hy:b.ops[k]?=some y) (h:R.defines y.kind=true):dnK b (k+1)=dnK b k+1:=by
 unfold dnK; rw [dsts_take hy,if_pos h]; simp
theorem dnK_no {b:BlockD} {k:Nat} {y:OpD} (hy:b.ops[k]?=some y) (h:R.defines y.kind=false):dnK b (k+1)=dnK b k:=by
 unfold dnK; rw [dsts_take hy,if_neg (by rw [h]; simp),List.append_nil]
theorem dnK_bd (b:BlockD) (k:Nat):0≤dnK b k∧dnK b k≤(b.ops.length:Int):=by
 have h1:=dsts_len (b.ops.take k)
 rw [List.length_take] at h1
 unfold dnK; omega
theorem fits_ok {b t:BlockD} {k:Nat} (hk:t.ops.length≤k) (hb:topD b≤9999):((dnK t k==0)||decide (topD b+dnK t k≤9999))=joinOk b t:=by
 have e:numK b t t.ops.length=topD b+1+dnK t k:=by unfold numK dnK; rw [List.take_of_length_le hk,List.take_of_length_le (Nat.le_refl _)]
 unfold joinOk
 rw [e,Bool.eq_iff_iff]
 simp only [Bool.or_eq_true,beq_iff_eq,decide_eq_true_eq]; omega
set_option maxHeartbeats 400000 in
theorem con_f114 (o:OpD):PX.Con Try.prog 114 [(.agg (encO o))] [] 1 100000 (.sc (.bool (R.defines o.kind))) []:=by
 refine PX.con_intro [(.agg (encO o))] 11 Try.func114 rfl rfl (by kernel_rfl) (by kernel_rfl) ?_
 intro E a hE hS
 generalize E.w0=w at hS ⊢
 have mix:=mixed
 refine PX.G [(.e 1 (.ptr 1 0))] [(1,.box 74 (encO o))] 2 [] [] [.au,.au] [1] [1] hS hE trivial fun a w hS=>?_
 refine PX.G [(.e 2 (.sc (.bool (decide (1≤o.kind)&&decide (o.kind≤15)))))] [] 2 [] [(3,decide (1≤o.kind))] [.au,.au,.au,.au,.au,.au,.au,.pk,.au] [2] [] hS hE trivial fun a w hS=>?_
 refine wp_ret ?_
 rw [show (.sc (.bool (R.defines o.kind)))=((.sc (.bool (decide (1≤o.kind)&&decide (o.kind≤15)))):PX.PV) from by simp [R.defines]]
 exact PX.rt hS hE (.inl rfl)

set_option maxHeartbeats 400000 in
theorem con_f113 (b:BlockD) (hb:0≤b.params∧b.params≤999) (hl:b.ops.length≤1000000):PX.Con Try.prog 113 [(.agg (encB b))] [] 1 100000 (.sc (.I (topD b))) []:=by
 refine PX.con_intro [(.agg (encB b))] 24 Try.func113 rfl rfl (by kernel_rfl) (by kernel_rfl) ?_
 intro E a hE hS
 generalize E.w0=w at hS ⊢
 have mix:=mixed
 refine PX.G [(.e 1 (.ptr 1 0))] [(1,.box 62 (encB b))] 2 [] [] [.au,.au] [1] [1] hS hE trivial fun a w hS=>?_
 refine PX.G [(.e 3 (.sc (.I (grK b (0)))))] [] 2 [.q ((.sc (.I (IntKind.i64.wrap (b.params-1))):PX.PV)=(.sc (.I (grK b (0)))))] [] [.au,.au,.nm (.sc (.I (grK b (0)))),.au] [1,3] [1] hS hE ⟨PX.nm_int (show IntKind.i64.wrap (b.params-1)=b.params-1 from IntWalk.i64_in _ (by omega)),trivial⟩ fun a w hS=>?_
 refine wp_seq_k fun K1 hK1=>?_
 refine PX.G [(.e 10 (.imm 11 (b.ops.map encO))),(.e 11 (.sc (.I (b.ops.length:Int)))),(.e 12 (.J 0))] [] 2 [.q ((.sc (.I (((b.ops.map encO).length:Nat):Int)):PX.PV)=(.sc (.I (b.ops.length:Int))))] [] [.au,.au,.nm (.sc (.I (b.ops.length:Int))),.au] [3,10,11,12] [] hS hE ⟨PX.nm_len (by simp),trivial⟩ fun a w hS=>?_
 refine wp_block ?_
 refine wp_loop_ghost (fun m2 a' w'=>∃ k:Nat,m2=b.ops.length-k∧k≤b.ops.length∧True∧PX.Sat E 24 [(.e 3 (.sc (.I (grK b (k))))),(.e 10 (.imm 11 (b.ops.map encO))),(.e 11 (.sc (.I (b.ops.length:Int)))),(.e 12 (.sc (.I (k:Int))))] [] 1 a' w') (b.ops.length-0) ⟨0,rfl,Nat.zero_le _,trivial,(PX.cn [] _ _ 1 hS hE)⟩ ?_
 clear hS; rintro m2 a w ⟨k,hm2,hlek,hIk,hS⟩
 refine PX.G [(.e 13 (.sc (.bool (decide ((k:Int)<(b.ops.length:Int))))))] [] 1 [] [] [.au] [3,10,11,12,13] [] hS hE trivial fun a w hS=>?_
 refine wp_seq_k fun K3 hK3=>?_
 refine PX.cond_s (decide ((k:Int)<(b.ops.length:Int))) hS (by kernel_rfl) (fun h4=>?_) (fun h4=>?_)
 ·skip
  refine wp_skip ?_
  refine hK3 _ _ ?_
  refine wp_seq_k fun K5 hK5=>?_
  refine wp_block ?_
  have hlty:k<b.ops.length:=by simpa using h4
  obtain ⟨y,hy⟩:=get_of_lt hlty
  refine PX.G [(.e 5 (.ptr 1 0))] [(1,.box 74 (encO y))] 2 [.q ((k:Int)=(k:Int)),.q ((b.ops.map encO)[k]?=some (encO y))] [] [.ix k (encO y),.au,.au,.au] [3,5,10,11,12] [1] hS hE ⟨rfl,PX.map_get hy,trivial⟩ fun a w hS=>?_
  refine PX.G [(.e 17 (.sc (.bool (R.defines y.kind))))] [] 2 [.q (PX.Con Try.prog 114 [(.agg (encO y))] [] 2 2 (.sc (.bool (R.defines y.kind))) [])] [] [.au,.cl [] (.sc (.bool (R.defines y.kind))) [] 2] [3,5,10,11,12,17] [1] hS hE ⟨PX.con_any (con_f114 y),trivial⟩ fun a w hS=>?_
  refine PX.cond_s (R.defines y.kind) hS (by kernel_rfl) (fun h6=>?_) (fun h6=>?_)
  ·skip
   refine PX.G0 [(.e 3 (.sc (.I (if y.dst > (grK b (k)) then y.dst else (grK b (k))))))] [] 2 [] [] [.au,.au,.au,.au,.au] [3,10,11,12] [] hS hE trivial fun a w hS=>?_
   refine hK5 _ _ ?_
   refine PX.G0 [(.e 12 (.sc (.I ((k+1:Nat):Int))))] [] 2 [.q ((.sc (.I (IntKind.i64.wrap ((k:Int)+1))):PX.PV)=(.sc (.I ((k+1:Nat):Int))))] [] [.nm (.sc (.I ((k+1:Nat):Int))),.au] [3,10,11,12] [] hS hE ⟨PX.nm_int (by rw [IntWalk.i64_in _ (by omega)]; omega),trivial⟩ fun a w hS=>?_
   rw [show (if y.dst > (grK b (k)) then y.dst else (grK b (k)))=grK b (k+1) from (grK_yes hy h6).symm] at hS
   exact ⟨b.ops.length-(k+1),by omega,k+1,rfl,by omega,trivial,(PX.cn [] _ _ 1 hS hE)⟩
  ·skip
   refine wp_skip ?_
   refine hK5 _ _ ?_
   refine PX.G0 [(.e 12 (.sc (.I ((k+1:Nat):Int))))] [] 2 [.q ((.sc (.I (IntKind.i64.wrap ((k:Int)+1))):PX.PV)=(.sc (.I ((k+1:Nat):Int))))] [] [.nm (.sc (.I ((k+1:Nat):Int))),.au] [3,10,11,12] [] hS hE ⟨PX.nm_int (by rw [IntWalk.i64_in _ (by omega)]; omega),trivial⟩ fun a w hS=>?_
   rw [show grK b (k)=grK b (k+1) from (grK_no hy h6).symm] at hS
   exact ⟨b.ops.length-(k+1),by omega,k+1,rfl,by omega,trivial,(PX.cn [] _ _ 1 hS hE)⟩
 ·skip
  refine wp_exit ?_
  refine hK1 _ _ ?_
  refine PX.G [(.e 2 (.sc (.I (grK b (k)))))] [] 1 [] [] [.au,.au] [2] [] hS hE trivial fun a w hS=>?_
  refine wp_ret ?_
  rw [show (.sc (.I (topD b)))=((.sc (.I (grK b (k)))):PX.PV) from by rw [grK_top (le_of_dec h4)]]
  exact PX.rt hS hE (.inl rfl)

set_option maxHeartbeats 400000 in
theorem con_f112 (b t:BlockD) (hb:0≤b.params∧b.params≤999) (hbl:b.ops.length≤6000) (htl:t.ops.length≤6000) (htop:-1≤topD b∧topD b≤9999):PX.Con Try.prog 112 [(.agg (encB b)),(.agg (encB t))] [] 1 100000 (.sc (.bool (joinOk b t))) []:=by
 refine PX.con_intro [(.agg (encB b)),(.agg (encB t))] 29 Try.func112 rfl rfl (by kernel_rfl) (by kernel_rfl) ?_
 intro E a hE hS
 generalize E.w0=w at hS ⊢
 have mix:=mixed
 refine PX.G [(.e 2 (.ptr 1 0)),(.e 3 (.ptr 2 0))] [(1,.box 62 (encB b)),(2,.box 62 (encB t))] 3 [] [] [.au,.au,.au] [2,3] [1,2] hS hE trivial fun a w hS=>?_
 refine PX.G [(.e 5 (.J 0))] [] 3 [] [] [.au] [2,3,5] [1,2] hS hE trivial fun a w hS=>?_
 refine wp_seq_k fun K1 hK1=>?_
 refine PX.G [(.e 9 (.imm 11 (t.ops.map encO))),(.e 10 (.sc (.I (t.ops.length:Int)))),(.e 11 (.J 0))] [] 3 [.q ((.sc (.I (((t.ops.map encO).length:Nat):Int)):PX.PV)=(.sc (.I (t.ops.length:Int))))] [] [.au,.au,.nm (.sc (.I (t.ops.length:Int))),.au] [2,5,9,10,11] [1] hS hE ⟨PX.nm_len (by simp),trivial⟩ fun a w hS=>?_
 refine wp_block ?_
 replace hS:=PX.sl [2,5,9,10,11] (PX.reslot (t:=5) (.sc (.I (dnK t (0)))) hS rfl (fun _ _ _ _ h=>(show PX.PV.sc (.I 0)=.sc (.I (dnK t (0))) from rfl) ▸ h))
 refine wp_loop_ghost (fun m2 a' w'=>∃ k:Nat,m2=t.ops.length-k∧k≤t.ops.length∧True∧PX.Sat E 29 [(.e 2 (.ptr 1 0)),(.e 5 (.sc (.I (dnK t (k))))),(.e 9 (.imm 11 (t.ops.map encO))),(.e 10 (.sc (.I (t.ops.length:Int)))),(.e 11 (.sc (.I (k:Int))))] [(1,.box 62 (encB b))] 2 a' w') (t.ops.length-0) ⟨0,rfl,Nat.zero_le _,trivial,(PX.cn [] _ _ 2 hS hE)⟩ ?_
 clear hS; rintro m2 a w ⟨k,hm2,hlek,hIk,hS⟩
 refine PX.G [(.e 12 (.sc (.bool (decide ((k:Int)<(t.ops.length:Int))))))] [] 2 [] [] [.au] [2,5,9,10,11,12] [1] hS hE trivial fun a w hS=>?_
 refine wp_seq_k fun K3 hK3=>?_
 refine PX.cond_s (decide ((k:Int)<(t.ops.length:Int))) hS (by kernel_rfl) (fun h4=>?_) (fun h4=>?_)
 ·skip
  refine wp_skip ?_
  refine hK3 _ _ ?_
  refine wp_seq_k fun K5 hK5=>?_
  refine wp_block ?_
  have hlty:k<t.ops.length:=by simpa using h4
  obtain ⟨y,hy⟩:=get_of_lt hlty
  refine PX.G [(.e 7 (.ptr 2 0))] [(2,.box 74 (encO y))] 3 [.q ((k:Int)=(k:Int)),.q ((t.ops.map encO)[k]?=some (encO y))] [] [.ix k (encO y),.au,.au,.au] [2,5,7,9,10,11] [1,2] hS hE ⟨rfl,PX.map_get hy,trivial⟩ fun a w hS=>?_
  refine PX.G [(.e 16 (.sc (.bool (R.defines y.kind))))] [] 3 [.q (PX.Con Try.prog 114 [(.agg (encO y))] [] 3 3 (.sc (.bool (R.defines y.kind))) [])] [] [.au,.cl [] (.sc (.bool (R.defines y.kind))) [] 3] [2,5,9,10,11,16] [1] hS hE ⟨PX.con_any (con_f114 y),trivial⟩ fun a w hS=>?_
  refine PX.cond_s (R.defines y.kind) hS (by kernel_rfl) (fun h6=>?_) (fun h6=>?_)
  ·skip
   refine PX.G0 [(.e 5 (.sc (.I (dnK t (k)+1))))] [] 3 [.q ((.sc (.I (IntKind.i64.wrap ((dnK t (k))+1))):PX.PV)=(.sc (.I (dnK t (k)+1))))] [] [.au,.nm (.sc (.I (dnK t (k)+1))),.au] [2,5,9,10,11] [1] hS hE ⟨PX.nm_int (by have:=dnK_bd t k; rw [IntWalk.i64_in _ (by omega)]),trivial⟩ fun a w hS=>?_
   refine hK5 _ _ ?_
   refine PX.G0 [(.e 11 (.sc (.I ((k+1:Nat):Int))))] [] 3 [.q ((.sc (.I (IntKind.i64.wrap ((k:Int)+1))):PX.PV)=(.sc (.I ((k+1:Nat):Int))))] [] [.nm (.sc (.I ((k+1:Nat):Int))),.au] [2,5,9,10,11] [1] hS hE ⟨PX.nm_int (by rw [IntWalk.i64_in _ (by omega)]; omega),trivial⟩ fun a w hS=>?_
   rw [show (dnK t (k)+1)=dnK t (k+1) from (dnK_yes hy h6).symm] at hS
   exact ⟨t.ops.length-(k+1),by omega,k+1,rfl,by omega,trivial,(PX.cn [] _ _ 2 hS hE)⟩
  ·skip
   refine wp_skip ?_
   refine hK5 _ _ ?_
   refine PX.G0 [(.e 11 (.sc (.I ((k+1:Nat):Int))))] [] 3 [.q ((.sc (.I (IntKind.i64.wrap ((k:Int)+1))):PX.PV)=(.sc (.I ((k+1:Nat):Int))))] [] [.nm (.sc (.I ((k+1:Nat):Int))),.au] [2,5,9,10,11] [1] hS hE ⟨PX.nm_int (by rw [IntWalk.i64_in _ (by omega)]; omega),trivial⟩ fun a w hS=>?_
   rw [show dnK t (k)=dnK t (k+1) from (dnK_no hy h6).symm] at hS
   exact ⟨t.ops.length-(k+1),by omega,k+1,rfl,by omega,trivial,(PX.cn [] _ _ 2 hS hE)⟩
 ·skip
  refine wp_exit ?_
  refine hK1 _ _ ?_
  refine PX.G [(.e 4 (.sc (.bool (((dnK t (k))==0)||decide ((topD b+dnK t k)≤9999)))))] [] 2 [.q (SX.pv [(2,((dnK t (k))==0))] [(2,false)]=true→PX.AllOb [.q (PX.Con Try.prog 113 [(.agg (encB b))] [] 2 2 (.sc (.I (topD b))) [])]),.q (SX.pv [(2,((dnK t (k))==0))] [(2,false)]=true→PX.AllOb [.q ((.sc (.I (IntKind.i64.wrap ((topD b)+(dnK t (k))))):PX.PV)=(.sc (.I (topD b+dnK t k))))])] [(2,((dnK t (k))==0))] [.au,.au,.au,.au,.cl [] (.sc (.I (topD b))) [] 2,.au,.nm (.sc (.I (topD b+dnK t k))),.au,.pk,.au] [4] [] hS hE ⟨fun hg=>⟨PX.con_any (con_f113 b hb (by omega)),trivial⟩,fun hg=>⟨PX.nm_int (by have:=dnK_bd t k; rw [IntWalk.i64_in _ (by omega)]),trivial⟩,trivial⟩ fun a w hS=>?_
  refine wp_ret ?_
  rw [show (.sc (.bool (joinOk b t)))=((.sc (.bool (((dnK t (k))==0)||decide ((topD b+dnK t k)≤9999)))):PX.PV) from by rw [← fits_ok (le_of_dec h4) htop.2]]
  exact PX.rt hS hE (.inl rfl)
end Go.Proofs.Ytlkcidmmpeebeaa
