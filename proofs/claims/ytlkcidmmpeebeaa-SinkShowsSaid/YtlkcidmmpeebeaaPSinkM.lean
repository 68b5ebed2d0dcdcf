/- Proved: Sink of debuggerlaw13: what the laws share -/
import Derived.Test.YtlkcidmmpeebeaaPSmall
import Derived.Test.YtlkcidmmpeebeaaPSinkH
set_option linter.unusedVariables false
set_option linter.unusedSimpArgs false
namespace Go.Proofs.Ytlkcidmmpeebeaa
open Go.RowKit Go.PX
set_option maxRecDepth 100000
def retD (p v:Int) (ops:List OpD):BlockD:={ params:=p,ops:=ops,term:={ kind:=4,a:=v,n:=0,args:=[],b0:=-1,args0:=[],b1:=-1,args1:=[] } }
theorem blkI_of (b:BlockD) (h:(decide (-9223372036854775808≤b.params)&&decide (b.params≤9223372036854775807)&&decide (-9223372036854775808≤b.term.kind)&&decide (b.term.kind≤9223372036854775807)&&decide (-9223372036854775808≤b.term.a)&&decide (b.term.a≤9223372036854775807)&&decide (-9223372036854775808≤b.term.n)&&decide (b.term.n≤9223372036854775807)&&decide (-9223372036854775808≤b.term.b0)&&decide (b.term.b0≤9223372036854775807)&&decide (-9223372036854775808≤b.term.b1)&&decide (b.term.b1≤9223372036854775807)&&(b.ops.all fun o=>[o.kind,o.dst,o.a,o.b,o.n,o.ctx,o.var,o.piece,o.sk,o.sv,o.sa].all fun x=>decide (-9223372036854775808≤x)&&decide (x≤9223372036854775807))&&(b.term.args.all fun x=>decide (-9223372036854775808≤x)&&decide (x≤9223372036854775807))&&(b.term.args0.all fun x=>decide (-9223372036854775808≤x)&&decide (x≤9223372036854775807))&&(b.term.args1.all fun x=>decide (-9223372036854775808≤x)&&decide (x≤9223372036854775807))&&decide (b.ops.length≤140737488351232))=true):BlkI b:=by
 simp only [Bool.and_eq_true,decide_eq_true_eq,List.all_eq_true] at h
 obtain ⟨⟨⟨⟨⟨⟨⟨⟨⟨⟨⟨⟨⟨⟨⟨⟨h1,h2⟩,h3⟩,h4⟩,h5⟩,h6⟩,h7⟩,h8⟩,h9⟩,h10⟩,h11⟩,h12⟩,h13⟩,h14⟩,h15⟩,h16⟩,h17⟩:=h
 refine ⟨⟨⟨h1,h2⟩,⟨h3,h4⟩,⟨h5,h6⟩,⟨h7,h8⟩,⟨h9,h10⟩,⟨h11,h12⟩⟩,fun o ho=>?_,fun x hx=>h14 x hx,fun x hx=>h15 x hx,fun x hx=>h16 x hx,h17⟩
 have q:=h13 o ho
 exact ⟨q o.kind (by simp),q o.dst (by simp),q o.a (by simp),q o.b (by simp),q o.n (by simp),q o.ctx (by simp),q o.var (by simp),q o.piece (by simp),q o.sk (by simp),q o.sv (by simp),q o.sa (by simp)⟩

set_option maxHeartbeats 400000 in
theorem con_ret13 (p v:Int) (ops:List OpD) (hl:ops.length≤1000000):PX.Con Try.prog 44 [(.J p),(.J v),(.imm 11 (ops.map encO))] [] 1 100000 (.agg (encB (retD p v ops))) []:=by
 refine PX.con_intro [(.J p),(.J v),(.imm 11 (ops.map encO))] 17 Try.func44 rfl rfl (by kernel_rfl) (by kernel_rfl) ?_
 intro E a hE hS
 generalize E.w0=w at hS ⊢
 have mix:=mixed
 refine PX.G [(.e 6 (.ptr 1 0))] [(1,.box 62 [(.J 0),(.sc (.slice none 0 0)),(.J 0),(.J 0),(.J 0),(.sc (.slice none 0 0)),(.J 0),(.sc (.slice none 0 0)),(.J 0),(.sc (.slice none 0 0))])] 2 [] [] [.au] [0,1,2,6] [1] hS hE trivial fun a w hS=>?_
 refine PX.G [] [(1,.box 62 [(.J p),(.own 3 11 (0+(ops.map encO).length)),(.J 4),(.J v),(.J 0),(.sc (.slice none 0 0)),(.sc (.I (-1))),(.sc (.slice none 0 0)),(.sc (.I (-1))),(.sc (.slice none 0 0))]),(3,.row 74 11 true (ops.map encO))] 4 [.b (lenIs 0 ([])),.b true,.b (Nat.ble (0+(ops.map encO).length) 1000000000)] [] [.au,.au,.au,.au,.au,.au,.au,.au,.au,.au,.au] [6] [1,3] hS hE ⟨rfl,rfl,by simp; omega,trivial⟩ fun a w hS=>?_
 replace hS:=PX.recell (id:=1) (j:=5) (.imm 1 []) hS rfl rfl rfl (PX.nil_imm 1)
 replace hS:=PX.recell (id:=1) (j:=7) (.imm 1 []) hS rfl rfl rfl (PX.nil_imm 1)
 replace hS:=PX.recell (id:=1) (j:=9) (.imm 1 []) hS rfl rfl rfl (PX.nil_imm 1)
 replace hS:=PX.fz 3 [] [(1,.box 62 [(.J p),(.imm 11 (ops.map encO)),(.J 4),(.J v),(.J 0),(.imm 1 ([])),(.sc (.I (-1))),(.imm 1 ([])),(.sc (.I (-1))),(.imm 1 ([]))])] [6] [1] [.b (PX.lenIs (0+(ops.map encO).length) (ops.map encO))] hS ⟨(by simp [PX.lenIs]),trivial⟩
 refine wp_ret ?_
 try simp only [Exit.then,Exit.inBlock,Nat.reduceEqDiff,↓reduceIte]
 exact PX.ret_s hS hE (by kernel_rfl) (by kernel_rfl) (by kernel_rfl) (.inl rfl)

set_option maxHeartbeats 400000 in
theorem con_mk13 (p:Int) (rows:List (List PX.PV)) (hl:rows.length≤1000000):PX.Con Try.prog 43 [(.J p),(.imm 10 rows)] [] 1 100000 (.agg [.sc (.I p),.imm 10 rows,.imm 3 [[.sc (.I (-1)),.sc (.I (-1)),.sc (.I 0)]],.imm 3 []]) []:=by
 refine PX.con_intro [(.J p),(.imm 10 rows)] 12 Try.func43 rfl rfl (by kernel_rfl) (by kernel_rfl) ?_
 intro E a hE hS
 generalize E.w0=w at hS ⊢
 have mix:=mixed
 refine PX.G [(.e 4 (.ptr 1 0))] [(1,.box 26 [(.J 0),(.sc (.slice none 0 0)),(.sc (.slice none 0 0)),(.sc (.slice none 0 0))])] 2 [] [] [.au] [0,1,4] [1] hS hE trivial fun a w hS=>?_
 refine PX.G [] [(1,.box 26 [(.J p),(.own 3 10 (0+rows.length)),(.own 4 3 1),(.sc (.slice none 0 0))]),(3,.row 62 10 true rows),(4,.row 99 3 true ([[(.sc (.I (-1))),(.sc (.I (-1))),(.J 0)]]))] 5 [.b (lenIs 0 ([])),.b true,.b (Nat.ble (0+rows.length) 1000000000)] [] [.au,.au,.au,.au,.au,.au,.au,.au] [4] [1,3,4] hS hE ⟨rfl,rfl,by simp; omega,trivial⟩ fun a w hS=>?_
 replace hS:=PX.recell (id:=1) (j:=3) (.imm 3 []) hS rfl rfl rfl (PX.nil_imm 3)
 replace hS:=PX.fz 3 [] [(1,.box 26 [(.J p),(.imm 10 rows),(.own 4 3 1),(.imm 3 ([]))])] [4] [1,4] [.b (PX.lenIs (0+rows.length) rows)] hS ⟨(by simp [PX.lenIs]),trivial⟩
 replace hS:=PX.fz 4 [] [(1,.box 26 [(.J p),(.imm 10 rows),(.imm 3 ([[(.sc (.I (-1))),(.sc (.I (-1))),(.J 0)]])),(.imm 3 ([]))])] [4] [1] [.b (PX.lenIs 1 ([[(.sc (.I (-1))),(.sc (.I (-1))),(.J 0)]]))] hS ⟨(by simp [PX.lenIs]),trivial⟩
 refine wp_ret ?_
 try simp only [Exit.then,Exit.inBlock,Nat.reduceEqDiff,↓reduceIte]
 exact PX.ret_s hS hE (by kernel_rfl) (by kernel_rfl) (by kernel_rfl) (.inl rfl)

def skD (c:CodeD):CodeD:=if P.check c (totW c.blocks)=0 then sinkD c else c
theorem con_sk {lo top:Nat} {c:CodeD} (hi:CodeI c):PX.Con Try.prog 41 [codeP c] [] lo top (codeP (skD c)) []:=by
 have h:=sink_con c hi
 have e:(if P.check c (totW c.blocks)=0 then codeP (sinkD c) else codeP c)=codeP (skD c):=by unfold skD; split <;> rfl
 rw [e] at h; exact PX.con_any h
theorem mem_sinkL:∀ (l:List OpD) (x:OpD),x∈sinkL l→x∈l
 | [],_,h=>h
 | o::l,x,h=>by
  simp only [sinkL,insD,List.mem_append,List.mem_cons,List.not_mem_nil,or_false] at h
  rcases h with (h | h) | h
  ·exact List.mem_cons_of_mem _ (mem_sinkL l x (List.mem_of_mem_take h))
  ·rw [h]; exact List.mem_cons_self
  ·exact List.mem_cons_of_mem _ (mem_sinkL l x (List.mem_of_mem_drop h))
theorem codeI_sk {c:CodeD} (hi:CodeI c):CodeI (skD c):=by
 unfold skD
 split
 ·refine ⟨hi.1,fun b hb=>?_,hi.2.2⟩
  obtain ⟨y,hy,rfl⟩:=List.mem_map.1 hb
  obtain ⟨h1,h2,h3,h4,h5,h6⟩:=hi.2.1 y hy
  exact ⟨h1,fun o ho=>h2 o (mem_sinkL _ o ho),h3,h4,h5,by simp only [sinkB,sinkL_len]; exact h6⟩
 ·exact hi
def kAdd:OpD:=⟨3,1,0,0,0,0,0,0,0,0,0⟩
def kBind:OpD:=⟨21,0,0,0,0,0,0,0,2,1,0⟩
def kMark:OpD:=⟨19,0,0,0,3,0,0,0,0,0,0⟩
def kPrint:OpD:=⟨18,0,1,0,0,0,0,0,0,0,0⟩
def kB:BlockD:=retD 1 0 [kBind,kMark,kAdd,kPrint]
def kC:CodeD:={ params:=1,blocks:=[retD 1 0 [kAdd,kBind,kMark,kPrint]],contexts:=[(-1,-1,0)],objects:=[] }
def kS:CodeD:={ params:=1,blocks:=[kB],contexts:=[(-1,-1,0)],objects:=[] }
theorem sk_K:skD kC=kS:=by kernel_rfl
theorem codeI_K:CodeI kC:=⟨⟨by decide,by decide⟩,fun b hb=>by
 simp only [kC,List.mem_cons,List.not_mem_nil,or_false] at hb
 rcases hb with rfl; exact blkI_of _ (by decide),fun o ho=>by simp [kC] at ho; subst ho; exact ⟨⟨by decide,by decide⟩,⟨by decide,by decide⟩,by decide,by decide⟩,fun o ho=>by simp [kC] at ho⟩
theorem con_skK {lo top:Nat}:PX.Con Try.prog 41 [codeP kC] [] lo top (codeP kS) []:=by rw [← sk_K]; exact con_sk codeI_K

set_option maxHeartbeats 1000000 in
theorem known13_con  : PX.Con Try.prog 40 [] [] 1 100000 (.sc (.bool true)) []:=by
 refine PX.con_intro [] 58 Try.func40 rfl rfl (by kernel_rfl) (by kernel_rfl) ?_
 intro E a hE hS
 generalize E.w0=w at hS ⊢
 have mix:=mixed
 refine PX.G [] [] 1 [] [] [.au] [] [] hS hE trivial fun a w hS=>?_
 refine PX.G [(.e 1 (.ptr 3 0))] [(3,.box 26 (codeL kS))] 4 [.q (PX.Con Try.prog 44 [(.J 1),(.J 0),(.imm 11 ([[(.J 3),(.J 1),(.J 0),(.J 0),(.J 0),(.J 0),(.J 0),(.J 0),(.J 0),(.J 0),(.J 0)],[(.J 21),(.J 0),(.J 0),(.J 0),(.J 0),(.J 0),(.J 0),(.J 0),(.J 2),(.J 1),(.J 0)],[(.J 19),(.J 0),(.J 0),(.J 0),(.J 3),(.J 0),(.J 0),(.J 0),(.J 0),(.J 0),(.J 0)],[(.J 18),(.J 0),(.J 1),(.J 0),(.J 0),(.J 0),(.J 0),(.J 0),(.J 0),(.J 0),(.J 0)]]))] [] 2 2 (.agg [(.J 1),(.imm 11 ([⟨3,1,0,0,0,0,0,0,0,0,0⟩,⟨21,0,0,0,0,0,0,0,2,1,0⟩,⟨19,0,0,0,3,0,0,0,0,0,0⟩,⟨18,0,1,0,0,0,0,0,0,0,0⟩].map encO)),(.J 4),(.J 0),(.J 0),(.imm 1 ([])),(.sc (.I (-1))),(.imm 1 ([])),(.sc (.I (-1))),(.imm 1 ([]))]) []),.b (PX.lenIs 4 ([[(.J 3),(.J 1),(.J 0),(.J 0),(.J 0),(.J 0),(.J 0),(.J 0),(.J 0),(.J 0),(.J 0)],[(.J 21),(.J 0),(.J 0),(.J 0),(.J 0),(.J 0),(.J 0),(.J 0),(.J 2),(.J 1),(.J 0)],[(.J 19),(.J 0),(.J 0),(.J 0),(.J 3),(.J 0),(.J 0),(.J 0),(.J 0),(.J 0),(.J 0)],[(.J 18),(.J 0),(.J 1),(.J 0),(.J 0),(.J 0),(.J 0),(.J 0),(.J 0),(.J 0),(.J 0)]])),.q (PX.Con Try.prog 43 [(.J 1),(.imm 10 ([[(.J 1),(.imm 11 ([⟨3,1,0,0,0,0,0,0,0,0,0⟩,⟨21,0,0,0,0,0,0,0,2,1,0⟩,⟨19,0,0,0,3,0,0,0,0,0,0⟩,⟨18,0,1,0,0,0,0,0,0,0,0⟩].map encO)),(.J 4),(.J 0),(.J 0),(.imm 1 ([])),(.sc (.I (-1))),(.imm 1 ([])),(.sc (.I (-1))),(.imm 1 ([]))]]))] [] 3 3 (.agg [(.J 1),(.imm 10 [[(.J 1),(.imm 11 ([⟨3,1,0,0,0,0,0,0,0,0,0⟩,⟨21,0,0,0,0,0,0,0,2,1,0⟩,⟨19,0,0,0,3,0,0,0,0,0,0⟩,⟨18,0,1,0,0,0,0,0,0,0,0⟩].map encO)),(.J 4),(.J 0),(.J 0),(.imm 1 ([])),(.sc (.I (-1))),(.imm 1 ([])),(.sc (.I (-1))),(.imm 1 ([]))]]),(.imm 3 [[.sc (.I (-1)),.sc (.I (-1)),.sc (.I 0)]]),(.imm 3 [])]) []),.b (PX.lenIs 1 ([[(.J 1),(.imm 11 ([⟨3,1,0,0,0,0,0,0,0,0,0⟩,⟨21,0,0,0,0,0,0,0,2,1,0⟩,⟨19,0,0,0,3,0,0,0,0,0,0⟩,⟨18,0,1,0,0,0,0,0,0,0,0⟩].map encO)),(.J 4),(.J 0),(.J 0),(.imm 1 ([])),(.sc (.I (-1))),(.imm 1 ([])),(.sc (.I (-1))),(.imm 1 ([]))]])),.q (PX.Con Try.prog 41 [(.agg [(.J 1),(.imm 10 [[(.J 1),(.imm 11 ([⟨3,1,0,0,0,0,0,0,0,0,0⟩,⟨21,0,0,0,0,0,0,0,2,1,0⟩,⟨19,0,0,0,3,0,0,0,0,0,0⟩,⟨18,0,1,0,0,0,0,0,0,0,0⟩].map encO)),(.J 4),(.J 0),(.J 0),(.imm 1 ([])),(.sc (.I (-1))),(.imm 1 ([])),(.sc (.I (-1))),(.imm 1 ([]))]]),(.imm 3 [[.sc (.I (-1)),.sc (.I (-1)),.sc (.I 0)]]),(.imm 3 [])])] [] 3 3 (codeP kS) [])] [] [.au,.au,.au,.au,.au,.au,.cv [1] (.agg [(.J 1),(.imm 11 ([⟨3,1,0,0,0,0,0,0,0,0,0⟩,⟨21,0,0,0,0,0,0,0,2,1,0⟩,⟨19,0,0,0,3,0,0,0,0,0,0⟩,⟨18,0,1,0,0,0,0,0,0,0,0⟩].map encO)),(.J 4),(.J 0),(.J 0),(.imm 1 ([])),(.sc (.I (-1))),(.imm 1 ([])),(.sc (.I (-1))),(.imm 1 ([]))]) 2,.au,.cv [2] (.agg [(.J 1),(.imm 10 [[(.J 1),(.imm 11 ([⟨3,1,0,0,0,0,0,0,0,0,0⟩,⟨21,0,0,0,0,0,0,0,2,1,0⟩,⟨19,0,0,0,3,0,0,0,0,0,0⟩,⟨18,0,1,0,0,0,0,0,0,0,0⟩].map encO)),(.J 4),(.J 0),(.J 0),(.imm 1 ([])),(.sc (.I (-1))),(.imm 1 ([])),(.sc (.I (-1))),(.imm 1 ([]))]]),(.imm 3 [[.sc (.I (-1)),.sc (.I (-1)),.sc (.I 0)]]),(.imm 3 [])]) 3,.cl [] (codeP kS) [] 3,.au,.au] [1] [3] hS hE ⟨PX.con_any (con_ret13 1 0 [⟨3,1,0,0,0,0,0,0,0,0,0⟩,⟨21,0,0,0,0,0,0,0,2,1,0⟩,⟨19,0,0,0,3,0,0,0,0,0,0⟩,⟨18,0,1,0,0,0,0,0,0,0,0⟩] (by decide)),rfl,PX.con_any (con_mk13 1 [[(.J 1),(.imm 11 ([⟨3,1,0,0,0,0,0,0,0,0,0⟩,⟨21,0,0,0,0,0,0,0,2,1,0⟩,⟨19,0,0,0,3,0,0,0,0,0,0⟩,⟨18,0,1,0,0,0,0,0,0,0,0⟩].map encO)),(.J 4),(.J 0),(.J 0),(.imm 1 ([])),(.sc (.I (-1))),(.imm 1 ([])),(.sc (.I (-1))),(.imm 1 ([]))]] (by decide)),rfl,con_skK,trivial⟩ fun a w hS=>?_
 refine PX.G [(.e 0 (.sc (.bool ((((((kS.blocks.length:Int)==1)&&((kB.ops.length:Int)==4))&&(kBind.kind==21))&&(kMark.kind==19))&&(kAdd.kind==3)))))] [] 4 [.q ((.sc (.I (((kS.blocks.map encB).length:Nat):Int)):PX.PV)=(.sc (.I (kS.blocks.length:Int)))),.q (SX.pv [(4,((kS.blocks.length:Int)==1)),(13,(((kS.blocks.length:Int)==1)&&((kB.ops.length:Int)==4))),(24,((((kS.blocks.length:Int)==1)&&((kB.ops.length:Int)==4))&&(kBind.kind==21))),(35,(((((kS.blocks.length:Int)==1)&&((kB.ops.length:Int)==4))&&(kBind.kind==21))&&(kMark.kind==19)))] [(4,true)]=true→PX.AllOb [.q (0=((0:Nat):Int)),.q ((kS.blocks.map encB)[0]?=some (encB kB))]),.q (SX.pv [(4,((kS.blocks.length:Int)==1)),(13,(((kS.blocks.length:Int)==1)&&((kB.ops.length:Int)==4))),(24,((((kS.blocks.length:Int)==1)&&((kB.ops.length:Int)==4))&&(kBind.kind==21))),(35,(((((kS.blocks.length:Int)==1)&&((kB.ops.length:Int)==4))&&(kBind.kind==21))&&(kMark.kind==19)))] [(4,true)]=true→PX.AllOb [.q ((.sc (.I (((kB.ops.map encO).length:Nat):Int)):PX.PV)=(.sc (.I (kB.ops.length:Int))))]),.q (SX.pv [(4,((kS.blocks.length:Int)==1)),(13,(((kS.blocks.length:Int)==1)&&((kB.ops.length:Int)==4))),(24,((((kS.blocks.length:Int)==1)&&((kB.ops.length:Int)==4))&&(kBind.kind==21))),(35,(((((kS.blocks.length:Int)==1)&&((kB.ops.length:Int)==4))&&(kBind.kind==21))&&(kMark.kind==19)))] [(13,true)]=true→PX.AllOb [.q (0=((0:Nat):Int)),.q ((kS.blocks.map encB)[0]?=some (encB kB))]),.q (SX.pv [(4,((kS.blocks.length:Int)==1)),(13,(((kS.blocks.length:Int)==1)&&((kB.ops.length:Int)==4))),(24,((((kS.blocks.length:Int)==1)&&((kB.ops.length:Int)==4))&&(kBind.kind==21))),(35,(((((kS.blocks.length:Int)==1)&&((kB.ops.length:Int)==4))&&(kBind.kind==21))&&(kMark.kind==19)))] [(13,true)]=true→PX.AllOb [.q (0=((0:Nat):Int)),.q ((kB.ops.map encO)[0]?=some (encO kBind))]),.q (SX.pv [(4,((kS.blocks.length:Int)==1)),(13,(((kS.blocks.length:Int)==1)&&((kB.ops.length:Int)==4))),(24,((((kS.blocks.length:Int)==1)&&((kB.ops.length:Int)==4))&&(kBind.kind==21))),(35,(((((kS.blocks.length:Int)==1)&&((kB.ops.length:Int)==4))&&(kBind.kind==21))&&(kMark.kind==19)))] [(24,true)]=true→PX.AllOb [.q (0=((0:Nat):Int)),.q ((kS.blocks.map encB)[0]?=some (encB kB))]),.q (SX.pv [(4,((kS.blocks.length:Int)==1)),(13,(((kS.blocks.length:Int)==1)&&((kB.ops.length:Int)==4))),(24,((((kS.blocks.length:Int)==1)&&((kB.ops.length:Int)==4))&&(kBind.kind==21))),(35,(((((kS.blocks.length:Int)==1)&&((kB.ops.length:Int)==4))&&(kBind.kind==21))&&(kMark.kind==19)))] [(24,true)]=true→PX.AllOb [.q (1=((1:Nat):Int)),.q ((kB.ops.map encO)[1]?=some (encO kMark))]),.q (SX.pv [(4,((kS.blocks.length:Int)==1)),(13,(((kS.blocks.length:Int)==1)&&((kB.ops.length:Int)==4))),(24,((((kS.blocks.length:Int)==1)&&((kB.ops.length:Int)==4))&&(kBind.kind==21))),(35,(((((kS.blocks.length:Int)==1)&&((kB.ops.length:Int)==4))&&(kBind.kind==21))&&(kMark.kind==19)))] [(35,true)]=true→PX.AllOb [.q (0=((0:Nat):Int)),.q ((kS.blocks.map encB)[0]?=some (encB kB))]),.q (SX.pv [(4,((kS.blocks.length:Int)==1)),(13,(((kS.blocks.length:Int)==1)&&((kB.ops.length:Int)==4))),(24,((((kS.blocks.length:Int)==1)&&((kB.ops.length:Int)==4))&&(kBind.kind==21))),(35,(((((kS.blocks.length:Int)==1)&&((kB.ops.length:Int)==4))&&(kBind.kind==21))&&(kMark.kind==19)))] [(35,true)]=true→PX.AllOb [.q (2=((2:Nat):Int)),.q ((kB.ops.map encO)[2]?=some (encO kAdd))])] [(4,((kS.blocks.length:Int)==1)),(13,(((kS.blocks.length:Int)==1)&&((kB.ops.length:Int)==4))),(24,((((kS.blocks.length:Int)==1)&&((kB.ops.length:Int)==4))&&(kBind.kind==21))),(35,(((((kS.blocks.length:Int)==1)&&((kB.ops.length:Int)==4))&&(kBind.kind==21))&&(kMark.kind==19)))] [.au,.au,.nm (.sc (.I (kS.blocks.length:Int))),.au,.au,.au,.au,.ix 0 (encB kB),.au,.au,.nm (.sc (.I (kB.ops.length:Int))),.au,.pk,.au,.au,.au,.ix 0 (encB kB),.au,.au,.ix 0 (encO kBind),.au,.au,.au,.pk,.au,.au,.au,.ix 0 (encB kB),.au,.au,.ix 1 (encO kMark),.au,.au,.au,.pk,.au,.au,.au,.ix 0 (encB kB),.au,.au,.ix 2 (encO kAdd),.au,.au,.au,.pk,.au] [0] [] hS hE ⟨PX.nm_len (by simp),fun hg=>⟨rfl,rfl,trivial⟩,fun hg=>⟨PX.nm_len (by simp),trivial⟩,fun hg=>⟨rfl,rfl,trivial⟩,fun hg=>⟨rfl,rfl,trivial⟩,fun hg=>⟨rfl,rfl,trivial⟩,fun hg=>⟨rfl,rfl,trivial⟩,fun hg=>⟨rfl,rfl,trivial⟩,fun hg=>⟨rfl,rfl,trivial⟩,trivial⟩ fun a w hS=>?_
 refine wp_ret ?_
 try simp only [Exit.then,Exit.inBlock,Nat.reduceEqDiff,↓reduceIte]
 rw [show (.sc (.bool true))=((.sc (.bool ((((((kS.blocks.length:Int)==1)&&((kB.ops.length:Int)==4))&&(kBind.kind==21))&&(kMark.kind==19))&&(kAdd.kind==3)))):PX.PV) from by kernel_rfl]
 exact PX.ret_s hS hE (by kernel_rfl) (by kernel_rfl) (by kernel_rfl) (.inl rfl)

theorem con_known13 {lo top:Nat}:PX.Con Try.prog 40 [] [] lo top (.sc (.bool true)) []:=PX.con_any known13_con
end Go.Proofs.Ytlkcidmmpeebeaa
