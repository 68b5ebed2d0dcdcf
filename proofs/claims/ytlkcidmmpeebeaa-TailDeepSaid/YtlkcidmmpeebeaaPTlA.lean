/- Proved: tailcall.isTail on plain data -/
import Derived.Test.YtlkcidmmpeebeaaCkD
set_option linter.unusedVariables false
set_option linter.unusedSimpArgs false
namespace Go.Proofs.Ytlkcidmmpeebeaa
open Go.RowKit Go.PX
set_option maxRecDepth 100000
set_option maxHeartbeats 1000000 in
theorem con_f50 (c:CodeD) (hl:CodeL c) (t:TermD) (hin:(((t.kind != 3)||decide (0≤t.b1))||decide ((0:Int)<(t.args0.length:Int)))=false→0≤t.b0∧t.b0<(c.blocks.length:Int)):PX.Con Try.prog 50 [(codeP c),(.agg [(.J t.kind),(.J t.a),(.J t.n),(.imm 1 (t.args.map encI)),(.J t.b0),(.imm 1 (t.args0.map encI)),(.J t.b1),(.imm 1 (t.args1.map encI))])] [] 1 100000 (.sc (.bool (isTailD c t))) []:=by
 refine PX.con_intro [(codeP c),(.agg [(.J t.kind),(.J t.a),(.J t.n),(.imm 1 (t.args.map encI)),(.J t.b0),(.imm 1 (t.args0.map encI)),(.J t.b1),(.imm 1 (t.args1.map encI))])] 60 Try.func50 rfl rfl (by kernel_rfl) (by kernel_rfl) ?_
 intro E a hE hS
 generalize E.w0=w at hS ⊢
 have mix:=mixed
 refine PX.G [(.e 2 (.ptr 1 0)),(.e 3 (.ptr 2 0))] [(1,.box 26 (codeL c)),(2,.box 60 [(.J t.kind),(.J t.a),(.J t.n),(.imm 1 (t.args.map encI)),(.J t.b0),(.imm 1 (t.args0.map encI)),(.J t.b1),(.imm 1 (t.args1.map encI))])] 3 [] [] [.au,.au,.au] [2,3] [1,2] hS hE trivial fun a w hS=>?_
 refine wp_seq_k fun K1 hK1=>?_
 refine PX.G [(.e 25 (.sc (.bool (((t.kind != 3)||decide (0≤t.b1))||decide (0<(t.args0.length:Int))))))] [] 3 [.q (SX.pv [(3,(t.kind != 3)),(10,((t.kind != 3)||decide (0≤t.b1)))] [(10,false)]=true→PX.AllOb [.q ((.sc (.I (((t.args0.map encI).length:Nat):Int)):PX.PV)=(.sc (.I (t.args0.length:Int))))])] [(3,(t.kind != 3)),(10,((t.kind != 3)||decide (0≤t.b1)))] [.au,.au,.au,.au,.au,.au,.au,.au,.au,.pk,.au,.au,.au,.au,.au,.nm (.sc (.I (t.args0.length:Int))),.au,.pk] [2,3,25] [1,2] hS hE ⟨fun hg=>⟨PX.nm_len (by simp),trivial⟩,trivial⟩ fun a w hS=>?_
 refine PX.cond_s (((t.kind != 3)||decide (0≤t.b1))||decide (0<(t.args0.length:Int))) hS (by kernel_rfl) (fun h2=>?_) (fun h2=>?_)
 ·skip
  refine PX.G [(.e 4 (.sc (.bool false)))] [] 3 [] [] [.au] [4] [] hS hE trivial fun a w hS=>?_
  refine wp_ret ?_
  rw [show (.sc (.bool (isTailD c t)))=((.sc (.bool false)):PX.PV) from by unfold isTailD; rw [if_pos h2]]
  exact PX.rt hS hE (.inl rfl)
 ·skip
  refine wp_skip ?_
  refine hK1 _ _ ?_
  obtain ⟨hb0,hb1⟩:=hin h2
  obtain ⟨b,hb⟩:=get_of_lt (show t.b0.toNat<c.blocks.length by omega)
  have hbl:=(hl.blk b (List.mem_of_getElem? hb)).ops
  have hD:isTailD c t=retB b:=by unfold isTailD; rw [if_neg (by rw [h2]; simp),hb]
  refine PX.G [(.e 5 (.ptr 3 0))] [(3,.box 62 (encB b))] 4 [.q (t.b0=(t.b0.toNat:Int)),.q ((c.blocks.map encB)[t.b0.toNat]?=some (encB b))] [] [.au,.au,.au,.au,.au,.au,.ix t.b0.toNat (encB b),.au,.au,.au] [5] [3] hS hE ⟨by omega,PX.map_get hb,trivial⟩ fun a w hS=>?_
  refine wp_seq_k fun K3 hK3=>?_
  refine PX.G [(.e 35 (.imm 11 (b.ops.map encO))),(.e 36 (.sc (.I (b.ops.length:Int)))),(.e 37 (.J 0))] [] 4 [.q ((.sc (.I (((b.ops.map encO).length:Nat):Int)):PX.PV)=(.sc (.I (b.ops.length:Int))))] [] [.au,.au,.nm (.sc (.I (b.ops.length:Int))),.au] [5,35,36,37] [3] hS hE ⟨PX.nm_len (by simp),trivial⟩ fun a w hS=>?_
  refine wp_block ?_
  refine wp_loop_ghost (fun m4 a' w'=>∃ k:Nat,m4=b.ops.length-k∧k≤b.ops.length∧Upto b.ops (fun _ o=>!(o.kind != 21&&o.kind != 20)) (k)∧PX.Sat E 60 [(.e 5 (.ptr 3 0)),(.e 35 (.imm 11 (b.ops.map encO))),(.e 36 (.sc (.I (b.ops.length:Int)))),(.e 37 (.sc (.I (k:Int))))] [(3,.box 62 (encB b))] 4 a' w') (b.ops.length-0) ⟨0,rfl,Nat.zero_le _,Upto.zero,(PX.cn [] _ _ 4 hS hE)⟩ ?_
  clear hS; rintro m4 a w ⟨k,hm4,hlek,hIk,hS⟩
  refine PX.G [(.e 38 (.sc (.bool (decide ((k:Int)<(b.ops.length:Int))))))] [] 4 [] [] [.au] [5,35,36,37,38] [3] hS hE trivial fun a w hS=>?_
  refine wp_seq_k fun K5 hK5=>?_
  refine PX.cond_s (decide ((k:Int)<(b.ops.length:Int))) hS (by kernel_rfl) (fun h6=>?_) (fun h6=>?_)
  ·skip
   refine wp_skip ?_
   refine hK5 _ _ ?_
   refine wp_seq_k fun K7 hK7=>?_
   refine wp_block ?_
   have hlty:k<b.ops.length:=by simpa using h6
   obtain ⟨y,hy⟩:=get_of_lt hlty
   refine PX.G [(.e 7 (.ptr 4 0))] [(4,.box 74 (encO y))] 5 [.q ((k:Int)=(k:Int)),.q ((b.ops.map encO)[k]?=some (encO y))] [] [.ix k (encO y),.au,.au,.au] [5,7,35,36,37] [3,4] hS hE ⟨rfl,PX.map_get hy,trivial⟩ fun a w hS=>?_
   refine PX.G [(.e 48 (.sc (.bool ((y.kind != 21)&&(y.kind != 20)))))] [] 5 [] [(3,(y.kind != 21))] [.au,.au,.au,.au,.au,.au,.au,.pk] [5,35,36,37,48] [3] hS hE trivial fun a w hS=>?_
   refine PX.cond_s ((y.kind != 21)&&(y.kind != 20)) hS (by kernel_rfl) (fun h8=>?_) (fun h8=>?_)
   ·skip
    refine PX.G [(.e 4 (.sc (.bool false)))] [] 5 [] [] [.au] [4,5,35,36,37] [3] hS hE trivial fun a w hS=>?_
    refine wp_ret ?_
    rw [show (.sc (.bool (isTailD c t)))=((.sc (.bool false)):PX.PV) from by rw [hD,← retB_no hy h8]]
    exact PX.rt hS hE (.inl rfl)
   ·skip
    refine wp_skip ?_
    refine hK7 _ _ ?_
    refine PX.G0 [(.e 37 (.sc (.I ((k+1:Nat):Int))))] [] 5 [.q ((.sc (.I (IntKind.i64.wrap ((k:Int)+1))):PX.PV)=(.sc (.I ((k+1:Nat):Int))))] [] [.nm (.sc (.I ((k+1:Nat):Int))),.au] [5,35,36,37] [3] hS hE ⟨PX.nm_int (by rw [IntWalk.i64_in _ (by omega)]; omega),trivial⟩ fun a w hS=>?_
    exact ⟨b.ops.length-(k+1),by omega,k+1,rfl,by omega,hIk.step hy (by rw [h8]; rfl),(PX.cn [] _ _ 4 hS hE)⟩
  ·skip
   refine wp_exit ?_
   refine hK3 _ _ ?_
   refine PX.G [(.e 4 (.sc (.bool ((b.term.kind==4)&&(b.term.a==0)))))] [] 4 [] [(4,(b.term.kind==4))] [.au,.au,.au,.au,.au,.au,.au,.au,.au,.pk,.au] [4] [] hS hE trivial fun a w hS=>?_
   refine wp_ret ?_
   rw [show (.sc (.bool (isTailD c t)))=((.sc (.bool ((b.term.kind==4)&&(b.term.a==0)))):PX.PV) from by rw [hD,← retB_yes hIk (by simpa using h6)]]
   exact PX.rt hS hE (.inl rfl)

def termP (t:TermD):PX.PV:=.agg [.sc (.I t.kind),.sc (.I t.a),.sc (.I t.n),.imm 1 (t.args.map encI),.sc (.I t.b0),.imm 1 (t.args0.map encI),.sc (.I t.b1),.imm 1 (t.args1.map encI)]
theorem con_isTail {lo top:Nat} {c:CodeD} {t:TermD} (hi:CodeI c) (hin:(((t.kind != 3)||decide (0≤t.b1))||decide ((0:Int)<(t.args0.length:Int)))=false→0≤t.b0∧t.b0<(c.blocks.length:Int)):PX.Con Try.prog 50 [codeP c,termP t] [] lo top (.sc (.bool (isTailD c t))) []:=con_len fun hl=>PX.con_any (con_f50 c hl t hin)
end Go.Proofs.Ytlkcidmmpeebeaa
