/- Proved: SinkShows: the two traces -/
import Derived.Test.YtlkcidmmpeebeaaPShA
import Derived.Test.YtlkcidmmpeebeaaPSinkM
set_option linter.unusedVariables false
set_option linter.unusedSimpArgs false
namespace Go.Proofs.Ytlkcidmmpeebeaa
open Go.RowKit Go.PX
set_option maxRecDepth 100000
abbrev shR906903:List (List PX.PV):=[[(.J 21),(.J 0),(.J 0),(.J 0),(.J 0),(.J 0),(.J 0),(.J 0),(.J 2),(.J 1),(.J 0)],[(.J 3),(.J 1),(.J 0),(.J 0),(.J 0),(.J 0),(.J 0),(.J 0),(.J 0),(.J 0),(.J 0)],[(.J 18),(.J 0),(.J 1),(.J 0),(.J 0),(.J 0),(.J 0),(.J 0),(.J 0),(.J 0),(.J 0)]]

def shC0:CodeD:={ params:=1,blocks:=[{ params:=1,ops:=[⟨21,0,0,0,0,0,0,0,2,1,0⟩,⟨19,0,0,0,3,0,0,0,0,0,0⟩,⟨3,1,0,0,0,0,0,0,0,0,0⟩],term:={ kind:=4,a:=1,n:=0,args:=[],b0:=-1,args0:=[],b1:=-1,args1:=[] } }],contexts:=[(-1,-1,0)],objects:=[] }
def shC1:CodeD:={ params:=1,blocks:=[{ params:=1,ops:=[⟨21,0,0,0,0,0,0,0,2,1,0⟩,⟨3,1,0,0,0,0,0,0,0,0,0⟩,⟨18,0,1,0,0,0,0,0,0,0,0⟩,⟨19,0,0,0,3,0,0,0,0,0,0⟩],term:={ kind:=4,a:=1,n:=0,args:=[],b0:=-1,args0:=[],b1:=-1,args1:=[] } }],contexts:=[(-1,-1,0)],objects:=[] }

def shP0:CodeD:={ params:=1,blocks:=[retD 1 1 [⟨3,1,0,0,0,0,0,0,0,0,0⟩,⟨21,0,0,0,0,0,0,0,2,1,0⟩,⟨19,0,0,0,3,0,0,0,0,0,0⟩]],contexts:=[(-1,-1,0)],objects:=[] }
theorem sh_sink0:skD shP0=shC0:=by kernel_rfl
theorem codeI_shP0:CodeI shP0:=⟨⟨by decide,by decide⟩,fun b hb=>by
 simp only [shP0,List.mem_cons,List.not_mem_nil,or_false] at hb
 rcases hb with rfl; exact blkI_of _ (by decide),fun o ho=>by simp [shP0] at ho; subst ho; exact ⟨⟨by decide,by decide⟩,⟨by decide,by decide⟩,by decide,by decide⟩,fun o ho=>by simp [shP0] at ho⟩
theorem codeI_sh0:CodeI shC0:=by rw [← sh_sink0]; exact codeI_sk codeI_shP0
def shP1:CodeD:={ params:=1,blocks:=[retD 1 1 [⟨3,1,0,0,0,0,0,0,0,0,0⟩,⟨21,0,0,0,0,0,0,0,2,1,0⟩,⟨18,0,1,0,0,0,0,0,0,0,0⟩,⟨19,0,0,0,3,0,0,0,0,0,0⟩]],contexts:=[(-1,-1,0)],objects:=[] }
theorem sh_sink1:skD shP1=shC1:=by kernel_rfl
theorem codeI_shP1:CodeI shP1:=⟨⟨by decide,by decide⟩,fun b hb=>by
 simp only [shP1,List.mem_cons,List.not_mem_nil,or_false] at hb
 rcases hb with rfl; exact blkI_of _ (by decide),fun o ho=>by simp [shP1] at ho; subst ho; exact ⟨⟨by decide,by decide⟩,⟨by decide,by decide⟩,by decide,by decide⟩,fun o ho=>by simp [shP1] at ho⟩
theorem codeI_sh1:CodeI shC1:=by rw [← sh_sink1]; exact codeI_sk codeI_shP1

set_option maxHeartbeats 400000 in
theorem sh131_0 (z:Int):PX.Con Try.prog 131 [(.ptr 1 0)] [(1,.box 116 [(.sc (.slice none 0 0)),(.sc (.slice none 0 0)),(.imm 1 ([[(.imm 7 shR2c9698)]])),(.sc (.slice none 0 0)),(.imm 4 shR20c178),(.J 3),(.J 0),(.J 3),(.J 0),(.J 1),(.own 4 1 1),(.sc (.slice none 0 0)),(.J 0),(.sc (.bool false)),(.J 0),(.sc (.slice none 0 0))]),(2,.box 142 [(.J 0),.any,(.map 3),.any,(.J 0),(.J 3),(.imm 11 shR439b68),.any,.any,.any,.any]),(3,.mp ([(0,.I z)])),(4,.row 138 1 false ([[(.ptr 2 0)]]))] 5 100000 (.sc (.bool true)) [(1,some (.box 116 [(.sc (.slice none 0 0)),(.sc (.slice none 0 0)),(.imm 1 ([[(.imm 7 shR2c9698)]])),(.sc (.slice none 0 0)),(.imm 4 shR20c178),(.J 3),(.J 0),(.J 3),(.J 1),(.J 0),(.own 4 1 1),(.imm 1 ([[(.imm 3 shR3542f3)]])),(.J 0),(.sc (.bool false)),(.J 0),(.sc (.slice none 0 0))])),(2,some (.box 142 [(.J 0),.any,(.map 3),.any,(.J 0),(.J 3),(.imm 11 shR439b68),.any,.any,.any,.any])),(3,some (.mp ([(0,.I z)]))),(4,some (.row 138 1 false ([[(.ptr 2 0)]])))]:=by
 refine PX.con_intro [(.ptr 1 0)] 83 Try.func131 rfl rfl (by kernel_rfl) (by kernel_rfl) ?_
 intro E a hE hS
 generalize E.w0=w at hS ⊢
 have mix:=mixed
 refine PX.G [] [] 5 [] [] [.au] [0] [1,2,3,4] hS hE trivial fun a w hS=>?_
 refine wp_seq_k fun K1 hK1=>?_
 refine PX.D [(.e 13 (.sc (.bool false)))] [] 5 [] [] [.au,.au,.au,.au,.au,.au,.au,.au,.au] [0,13] [1,2,3,4] hS mixed hE trivial fun a w hS=>?_
 refine PX.cond_s false hS (by kernel_rfl) (fun h2=>nomatch h2) (fun h2=>?_)
 refine wp_skip ?_
 refine hK1 _ _ ?_
 refine wp_seq_k fun K3 hK3=>?_
 refine PX.D [(.e 38 (.sc (.bool true)))] [] 5 [] [] [.au,.au,.au,.au,.au,.au,.au,.au,.au,.au,.au,.au,.au,.au,.au,.au,.au,.au,.au,.au,.au] [0,38] [1,2,3,4] hS mixed hE trivial fun a w hS=>?_
 refine PX.cond_s true hS (by kernel_rfl) (fun h4=>?_) (fun h4=>nomatch h4)
 refine PX.G [(.e 3 (.ptr 5 0))] [(5,.box 88 [(.sc (.slice none 0 0))])] 6 [] [] [.au,.au,.au] [0,3] [1,2,3,4,5] hS hE trivial fun a w hS=>?_
 refine wp_seq_k fun K5 hK5=>?_
 refine PX.G [(.e 4 (.J 0))] [] 6 [.q ((.sc (.I ((1:Nat):Int)):PX.PV)=(.J 1))] [] [.au,.au,.au,.au,.nm (.J 1),.au,.au] [0,3,4] [1,2,3,4,5] hS hE ⟨rfl,trivial⟩ fun a w hS=>?_
 refine wp_block ?_
 refine wp_loop_rounds 2 ?_
 rw [rounds_succ]
 refine wp_seq_k fun K6 hK6=>?_
 refine PX.G [(.e 47 (.sc (.bool true)))] [] 6 [] [] [.au,.au] [0,3,4,47] [1,2,3,4,5] hS hE trivial fun a w hS=>?_
 refine PX.cond_s true hS (by kernel_rfl) (fun h7=>?_) (fun h7=>nomatch h7)
 refine wp_skip ?_
 refine hK6 _ _ ?_
 refine wp_seq_k fun K8 hK8=>?_
 refine wp_block ?_
 refine PX.D0 [] [(1,.box 116 [(.sc (.slice none 0 0)),(.sc (.slice none 0 0)),(.imm 1 ([[(.imm 7 shR2c9698)]])),(.sc (.slice none 0 0)),(.imm 4 shR20c178),(.J 3),(.J 0),(.J 3),(.J 0),(.J 1),(.own 4 1 1),(.sc (.slice none 0 0)),(.J 0),(.sc (.bool false)),(.J 0),(.sc (.slice none 0 0))]),(2,.box 142 [(.J 0),.any,(.map 3),.any,(.J 0),(.J 3),(.imm 11 shR439b68),.any,.any,.any,.any]),(3,.mp ([(0,.I z)])),(4,.row 138 1 false ([[(.ptr 2 0)]])),(5,.box 88 [(.own 6 3 (0+shR3542f3.length))]),(6,.row 91 3 true shR3542f3)] 7 [.q (0=((0:Nat):Int)),.q (0<1),.q (PX.Con Try.prog 158 [(.ptr 1 0),(.ptr 2 0)] [(1,.box 116 [(.sc (.slice none 0 0)),(.sc (.slice none 0 0)),(.imm 1 ([[(.imm 7 shR2c9698)]])),(.sc (.slice none 0 0)),(.imm 4 shR20c178),(.J 3),(.J 0),(.J 3),(.J 0),(.J 1),(.own 4 1 1),(.sc (.slice none 0 0)),(.J 0),(.sc (.bool false)),(.J 0),(.sc (.slice none 0 0))]),(2,.box 142 [(.J 0),.any,(.map 3),.any,(.J 0),(.J 3),(.imm 11 shR439b68),.any,.any,.any,.any]),(3,.mp ([(0,.I z)])),(4,.row 138 1 false ([[(.ptr 2 0)]]))] 6 6 (.imm 3 shR3542f3) [(1,some (.box 116 [(.sc (.slice none 0 0)),(.sc (.slice none 0 0)),(.imm 1 ([[(.imm 7 shR2c9698)]])),(.sc (.slice none 0 0)),(.imm 4 shR20c178),(.J 3),(.J 0),(.J 3),(.J 0),(.J 1),(.own 4 1 1),(.sc (.slice none 0 0)),(.J 0),(.sc (.bool false)),(.J 0),(.sc (.slice none 0 0))])),(2,some (.box 142 [(.J 0),.any,(.map 3),.any,(.J 0),(.J 3),(.imm 11 shR439b68),.any,.any,.any,.any])),(3,some (.mp ([(0,.I z)]))),(4,some (.row 138 1 false ([[(.ptr 2 0)]])))]),.b true,.b true,.b (Nat.ble (0+shR3542f3.length) 1000000000)] [] [.au,.au,.au,.au,.au,.au,.au,.au,.ix 0 [],.au,.cl [1,2,3,4] (.imm 3 shR3542f3) [(1,some (.box 116 [(.sc (.slice none 0 0)),(.sc (.slice none 0 0)),(.imm 1 ([[(.imm 7 shR2c9698)]])),(.sc (.slice none 0 0)),(.imm 4 shR20c178),(.J 3),(.J 0),(.J 3),(.J 0),(.J 1),(.own 4 1 1),(.sc (.slice none 0 0)),(.J 0),(.sc (.bool false)),(.J 0),(.sc (.slice none 0 0))])),(2,some (.box 142 [(.J 0),.any,(.map 3),.any,(.J 0),(.J 3),(.imm 11 shR439b68),.any,.any,.any,.any])),(3,some (.mp ([(0,.I z)]))),(4,some (.row 138 1 false ([[(.ptr 2 0)]])))] 6,.au,.au,.au] [0,3,4] [1,2,3,4,5,6] hS mixed hE ⟨by omega,by decide,PX.con_as [(1,1),(2,2),(3,3),(4,4)] [(1,1),(2,2),(3,3),(4,4)] (sh158_0 z) (by kernel_rfl) (by kernel_rfl) (by kernel_rfl) (by kernel_rfl) (by kernel_rfl) (by kernel_rfl),rfl,rfl,rfl,trivial⟩ fun a w hS=>?_
 refine hK8 _ _ ?_
 refine PX.G0 [(.e 4 (.sc (.I (-1))))] [] 7 [] [] [.au,.au,.au] [0,3,4] [1,2,3,4,5,6] hS hE trivial fun a w hS=>?_
 show Code.rounds _ _ _ 1 _ _
 rw [rounds_succ]
 refine wp_seq_k fun K9 hK9=>?_
 refine PX.G [(.e 47 (.sc (.bool false)))] [] 7 [] [] [.au,.au] [0,3,4,47] [1,2,3,4,5,6] hS hE trivial fun a w hS=>?_
 refine PX.cond_s false hS (by kernel_rfl) (fun h10=>nomatch h10) (fun h10=>?_)
 refine wp_exit ?_
 refine hK5 _ _ ?_
 replace hS:=PX.fz 6 [] [(5,.box 88 [(.imm 3 shR3542f3)])] [0,3,4,47] [1,2,3,4,5] [.b (PX.lenIs (0+shR3542f3.length) shR3542f3)] hS ⟨(rfl),trivial⟩
 refine PX.D0 [] [(1,.box 116 [(.sc (.slice none 0 0)),(.sc (.slice none 0 0)),(.imm 1 ([[(.imm 7 shR2c9698)]])),(.sc (.slice none 0 0)),(.imm 4 shR20c178),(.J 3),(.J 0),(.J 3),(.J 0),(.J 1),(.own 4 1 1),(.own 8 1 1),(.J 0),(.sc (.bool false)),(.J 0),(.sc (.slice none 0 0))]),(8,.row 88 1 true ([[(.imm 3 shR3542f3)]]))] 9 [.b true,.b (lenIs 1 ([[(.imm 3 shR3542f3)]])),.b (Nat.ble (1) 1000000000)] [] [.au,.au,.au,.au,.au,.au,.au,.au,.au,.au,.au] [0] [1,2,3,4,8] hS mixed hE ⟨rfl,rfl,rfl,trivial⟩ fun a w hS=>?_
 refine hK3 _ _ ?_
 refine PX.G [] [(1,.box 116 [(.sc (.slice none 0 0)),(.sc (.slice none 0 0)),(.imm 1 ([[(.imm 7 shR2c9698)]])),(.sc (.slice none 0 0)),(.imm 4 shR20c178),(.J 3),(.J 0),(.J 3),(.J 1),(.J 1),(.own 4 1 1),(.own 8 1 1),(.J 0),(.sc (.bool false)),(.J 0),(.sc (.slice none 0 0))])] 9 [] [] [.au,.au,.au,.au,.au,.au,.au,.au] [0] [1,2,3,4,8] hS hE trivial fun a w hS=>?_
 refine PX.G [] [(1,.box 116 [(.sc (.slice none 0 0)),(.sc (.slice none 0 0)),(.imm 1 ([[(.imm 7 shR2c9698)]])),(.sc (.slice none 0 0)),(.imm 4 shR20c178),(.J 3),(.J 0),(.J 3),(.J 1),(.J 0),(.own 4 1 1),(.own 8 1 1),(.J 0),(.sc (.bool false)),(.J 0),(.sc (.slice none 0 0))])] 9 [] [] [.au,.au,.au,.au] [] [1,2,3,4,8] hS hE trivial fun a w hS=>?_
 refine PX.G [(.e 2 (.sc (.bool true)))] [] 9 [] [] [.au] [2] [1,2,3,4,8] hS hE trivial fun a w hS=>?_
 refine wp_ret ?_
 try simp only [Exit.then,Exit.inBlock,Nat.reduceEqDiff,↓reduceIte]
 replace hS:=PX.fz 8 [] [(1,.box 116 [(.sc (.slice none 0 0)),(.sc (.slice none 0 0)),(.imm 1 ([[(.imm 7 shR2c9698)]])),(.sc (.slice none 0 0)),(.imm 4 shR20c178),(.J 3),(.J 0),(.J 3),(.J 1),(.J 0),(.own 4 1 1),(.imm 1 ([[(.imm 3 shR3542f3)]])),(.J 0),(.sc (.bool false)),(.J 0),(.sc (.slice none 0 0))])] [2] [1,2,3,4] [.b (PX.lenIs 1 ([[(.imm 3 shR3542f3)]]))] hS ⟨(rfl),trivial⟩
 exact PX.ret_s hS hE (by kernel_rfl) (by kernel_rfl) (by kernel_rfl) (.inl rfl)

set_option maxHeartbeats 400000 in
theorem sh132_0 (z:Int):PX.Con Try.prog 132 [(.imm 11 shR439b68)] [] 1 100000 (.imm 11 shR439b68) []:=by
 refine PX.con_intro [(.imm 11 shR439b68)] 65 Try.func132 rfl rfl (by kernel_rfl) (by kernel_rfl) ?_
 intro E a hE hS
 generalize E.w0=w at hS ⊢
 have mix:=mixed
 refine PX.G [] [] 1 [] [] [.au] [0] [] hS hE trivial fun a w hS=>?_
 refine PX.G [(.e 3 (.sc (.slice none 0 0)))] [] 1 [] [] [.au] [0,3] [] hS hE trivial fun a w hS=>?_
 refine wp_seq_k fun K1 hK1=>?_
 refine PX.G [(.e 9 (.imm 11 shR439b68)),(.e 10 (.J 1)),(.e 11 (.J 0))] [] 1 [.q ((.sc (.I (shR439b68.length:Int)):PX.PV)=(.J 1))] [] [.au,.nm (.J 1),.au] [3,9,10,11] [] hS hE ⟨rfl,trivial⟩ fun a w hS=>?_
 refine wp_block ?_
 refine wp_loop_rounds 2 ?_
 rw [rounds_succ]
 refine PX.G [(.e 12 (.sc (.bool true)))] [] 1 [] [] [.au] [3,9,10,11,12] [] hS hE trivial fun a w hS=>?_
 refine wp_seq_k fun K2 hK2=>?_
 refine PX.cond_s true hS (by kernel_rfl) (fun h3=>?_) (fun h3=>nomatch h3)
 refine wp_skip ?_
 refine hK2 _ _ ?_
 refine wp_seq_k fun K4 hK4=>?_
 refine wp_block ?_
 refine PX.G [(.e 5 (.ptr 1 0))] [(1,.box 74 [(.J 21),(.J 0),(.J 0),(.J 0),(.J 0),(.J 0),(.J 0),(.J 0),(.J 2),(.J 1),(.J 0)])] 2 [.q (0=((0:Nat):Int)),.q (shR439b68[0]?=some ([(.J 21),(.J 0),(.J 0),(.J 0),(.J 0),(.J 0),(.J 0),(.J 0),(.J 2),(.J 1),(.J 0)]))] [] [.ix 0 ([(.J 21),(.J 0),(.J 0),(.J 0),(.J 0),(.J 0),(.J 0),(.J 0),(.J 2),(.J 1),(.J 0)]),.au,.au,.au] [3,5,9,10,11] [1] hS hE ⟨rfl,rfl,trivial⟩ fun a w hS=>?_
 refine wp_seq_k fun K5 hK5=>?_
 refine PX.G [(.e 17 (.sc (.bool false)))] [] 2 [] [] [.au,.au,.au] [3,5,9,10,11,17] [1] hS hE trivial fun a w hS=>?_
 refine PX.cond_s false hS (by kernel_rfl) (fun h6=>nomatch h6) (fun h6=>?_)
 refine wp_skip ?_
 refine hK5 _ _ ?_
 refine PX.G [(.e 6 (.J 0))] [] 2 [] [] [.au] [3,5,6,9,10,11] [1] hS hE trivial fun a w hS=>?_
 refine wp_seq_k fun K7 hK7=>?_
 refine wp_block ?_
 refine wp_loop_rounds 1 ?_
 rw [rounds_succ]
 refine wp_seq_k fun K8 hK8=>?_
 refine PX.D [(.e 29 (.sc (.bool false)))] [] 2 [] [(4,false)] [.au,.au,.au,.au,.au,.dd,.dd,.dd,.dd,.dd,.dd,.au] [3,5,6,9,10,11,29] [1] hS mixed hE trivial fun a w hS=>?_
 refine PX.cond_s false hS (by kernel_rfl) (fun h9=>nomatch h9) (fun h9=>?_)
 refine wp_exit ?_
 refine hK7 _ _ ?_
 refine PX.D [(.e 7 (.sc (.bool false)))] [] 2 [] [(4,false)] [.au,.au,.au,.au,.au,.dd,.dd,.dd,.dd,.dd,.dd,.dd,.au,.au] [3,5,6,7,9,10,11] [1] hS mixed hE trivial fun a w hS=>?_
 refine PX.G [(.e 8 (.sc (.slice none 0 0)))] [] 2 [] [] [.au,.au,.au,.au] [3,5,6,7,8,9,10,11] [1] hS hE trivial fun a w hS=>?_
 refine wp_seq_k fun K10 hK10=>?_
 refine PX.G [(.e 48 (.sc (.bool false)))] [] 2 [] [] [.au] [3,5,6,8,9,10,11,48] [1] hS hE trivial fun a w hS=>?_
 refine PX.cond_s false hS (by kernel_rfl) (fun h11=>nomatch h11) (fun h11=>?_)
 refine wp_skip ?_
 refine hK10 _ _ ?_
 refine PX.D0 [(.e 3 (.own 6 11 1))] [(6,.row 74 11 true ([[(.J 21),(.J 0),(.J 0),(.J 0),(.J 0),(.J 0),(.J 0),(.J 0),(.J 2),(.J 1),(.J 0)]]))] 7 [.b (lenIs 0 ([])),.b true,.b (Nat.ble (0) 1000000000),.b (lenIs 0 ([])),.b (lenIs 1 ([[(.J 21),(.J 0),(.J 0),(.J 0),(.J 0),(.J 0),(.J 0),(.J 0),(.J 2),(.J 1),(.J 0)]])),.b (Nat.ble (1) 1000000000),.b (lenIs 1 ([[(.J 21),(.J 0),(.J 0),(.J 0),(.J 0),(.J 0),(.J 0),(.J 0),(.J 2),(.J 1),(.J 0)]])),.b true,.b (Nat.ble (1) 1000000000)] [] [.au,.au,.au,.au,.au,.au,.au,.au,.au,.au,.au] [3,9,10,11] [6] hS mixed hE ⟨rfl,rfl,rfl,rfl,rfl,rfl,rfl,rfl,rfl,trivial⟩ fun a w hS=>?_
 refine hK4 _ _ ?_
 refine PX.G0 [(.e 11 (.J 1))] [] 7 [] [] [.au,.au] [3,9,10,11] [6] hS hE trivial fun a w hS=>?_
 show Code.rounds _ _ _ 1 _ _
 rw [rounds_succ]
 refine PX.G [(.e 12 (.sc (.bool false)))] [] 7 [] [] [.au] [3,9,10,11,12] [6] hS hE trivial fun a w hS=>?_
 refine wp_seq_k fun K12 hK12=>?_
 refine PX.cond_s false hS (by kernel_rfl) (fun h13=>nomatch h13) (fun h13=>?_)
 refine wp_exit ?_
 refine hK1 _ _ ?_
 refine PX.G [(.e 2 (.own 6 11 1))] [] 7 [] [] [.au,.au] [2] [6] hS hE trivial fun a w hS=>?_
 refine wp_ret ?_
 try simp only [Exit.then,Exit.inBlock,Nat.reduceEqDiff,↓reduceIte]
 replace hS:=PX.fz 6 [(.e 2 (.imm 11 ([[(.J 21),(.J 0),(.J 0),(.J 0),(.J 0),(.J 0),(.J 0),(.J 0),(.J 2),(.J 1),(.J 0)]])))] [] [2] [] [.b (PX.lenIs 1 ([[(.J 21),(.J 0),(.J 0),(.J 0),(.J 0),(.J 0),(.J 0),(.J 0),(.J 2),(.J 1),(.J 0)]]))] hS ⟨(rfl),trivial⟩
 exact PX.ret_s hS hE (by kernel_rfl) (by kernel_rfl) (by kernel_rfl) (.inl rfl)

set_option maxHeartbeats 400000 in
theorem sh133_0 (z:Int):PX.Con Try.prog 133 [(.J 0),(.J z),(.J z)] [] 1 100000 (.sc (.I (IntKind.i64.wrap (z+z)))) []:=by
 refine PX.con_intro [(.J 0),(.J z),(.J z)] 76 Try.func133 rfl rfl (by kernel_rfl) (by kernel_rfl) ?_
 intro E a hE hS
 generalize E.w0=w at hS ⊢
 have mix:=mixed
 refine PX.G [] [] 1 [] [] [.au] [0,1,2] [] hS hE trivial fun a w hS=>?_
 refine PX.G [(.e 7 (.sc (.bool false)))] [] 1 [] [] [.au] [0,1,2,7] [] hS hE trivial fun a w hS=>?_
 refine wp_seq_k fun K1 hK1=>?_
 refine PX.G [(.e 9 (.J 6))] [] 1 [] [] [.au,.au] [1,2,7,9] [] hS hE trivial fun a w hS=>?_
 refine wp_block ?_
 refine PX.G [(.e 10 (.sc (.bool true)))] [] 1 [] [] [.au,.au] [1,2,7,9,10] [] hS hE trivial fun a w hS=>?_
 refine PX.cond_s true hS (by kernel_rfl) (fun h2=>?_) (fun h2=>nomatch h2)
 refine PX.G [(.e 6 (.sc (.I (IntKind.i64.wrap (z+z)))))] [] 1 [] [] [.au,.au,.au,.au] [6] [] hS hE trivial fun a w hS=>?_
 refine wp_ret ?_
 try simp only [Exit.then,Exit.inBlock,Nat.reduceEqDiff,↓reduceIte]
 exact PX.ret_s hS hE (by kernel_rfl) (by kernel_rfl) (by kernel_rfl) (.inl rfl)

set_option maxHeartbeats 1000000 in
theorem sh95_0k0 (z:Int):PX.Con Try.prog 95 [(.ptr 1 0),(.ptr 2 0),(.agg [(.J 1),(.imm 11 shRc7ce6f),(.J 4),(.J 1),(.J 0),(.imm 1 ([])),(.sc (.I (-1))),(.imm 1 ([])),(.sc (.I (-1))),(.imm 1 ([]))]),(.J 0)] [(1,.box 116 [(.sc (.slice none 0 0)),(.sc (.slice none 0 0)),(.imm 1 ([[(.imm 7 shR2c9698)]])),(.sc (.slice none 0 0)),(.imm 4 shR20c178),(.J 3),(.J 0),(.J 3),(.J 0),(.J 1),(.own 4 1 1),(.sc (.slice none 0 0)),(.J 0),(.sc (.bool false)),(.J 0),(.sc (.slice none 0 0))]),(2,.box 142 [(.J 0),.any,(.map 3),.any,.any,.any,.any,.any,.any,.any,.any]),(3,.mp ([(0,.I z)])),(4,.row 138 1 false ([[(.ptr 2 0)]]))] 5 100000 (.sc (.bool true)) [(1,some (.box 116 [(.sc (.slice none 0 0)),(.sc (.slice none 0 0)),(.imm 1 ([[(.imm 7 shR2c9698)]])),(.sc (.slice none 0 0)),(.imm 4 shR20c178),(.J 3),(.J 0),(.J 3),(.J 0),(.J 1),(.own 4 1 1),(.sc (.slice none 0 0)),(.J 0),(.sc (.bool false)),(.J 0),(.sc (.slice none 0 0))])),(2,some (.box 142 [(.J 0),.any,(.map 3),.any,.any,.any,.any,.any,.any,.any,.any])),(3,some (.mp ([(0,.I z)]))),(4,some (.row 138 1 false ([[(.ptr 2 0)]])))]:=by
 refine PX.con_intro [(.ptr 1 0),(.ptr 2 0),(.agg [(.J 1),(.imm 11 shRc7ce6f),(.J 4),(.J 1),(.J 0),(.imm 1 ([])),(.sc (.I (-1))),(.imm 1 ([])),(.sc (.I (-1))),(.imm 1 ([]))]),(.J 0)] 211 Try.func95 rfl rfl (by kernel_rfl) (by kernel_rfl) ?_
 intro E a hE hS
 generalize E.w0=w at hS ⊢
 have mix:=mixed
 refine PX.G [(.e 6 (.ptr 5 0))] [(5,.box 62 [(.J 1),(.imm 11 shRc7ce6f),(.J 4),(.J 1),(.J 0),(.imm 1 ([])),(.sc (.I (-1))),(.imm 1 ([])),(.sc (.I (-1))),(.imm 1 ([]))])] 6 [] [] [.au,.au] [0,1,3,6] [1,2,3,4,5] hS hE trivial fun a w hS=>?_
 refine PX.G [(.e 9 (.ptr 6 0))] [(6,.box 74 [(.J 21),(.J 0),(.J 0),(.J 0),(.J 0),(.J 0),(.J 0),(.J 0),(.J 2),(.J 1),(.J 0)])] 7 [.q (0=((0:Nat):Int)),.q (shRc7ce6f[0]?=some ([(.J 21),(.J 0),(.J 0),(.J 0),(.J 0),(.J 0),(.J 0),(.J 0),(.J 2),(.J 1),(.J 0)]))] [] [.au,.au,.au,.ix 0 ([(.J 21),(.J 0),(.J 0),(.J 0),(.J 0),(.J 0),(.J 0),(.J 0),(.J 2),(.J 1),(.J 0)]),.au,.au,.au] [0,1,3,6,9] [1,2,3,4,5,6] hS hE ⟨rfl,rfl,trivial⟩ fun a w hS=>?_
 refine PX.D [(.e 10 (.J z)),(.e 11 (.J z))] [] 7 [.q ((.sc ((PX.findV ([(0,.I z)]) 0).getD (.I 0)):PX.PV)=(.J z)),.q ((.sc ((PX.findV ([(0,.I z)]) 0).getD (.I 0)):PX.PV)=(.J z))] [] [.au,.au,.au,.au,.au,.au,.nm (.J z),.au,.au,.au,.au,.au,.au,.nm (.J z),.au,.au] [0,1,3,6,9,10,11] [1,2,3,4,5,6] hS mixed hE ⟨rfl,rfl,trivial⟩ fun a w hS=>?_
 refine wp_seq_k fun K1 hK1=>?_
 refine PX.G [(.e 32 (.J 21))] [] 7 [] [] [.au,.au] [0,1,3,6,9,10,11,32] [1,2,3,4,5,6] hS hE trivial fun a w hS=>?_
 refine wp_block ?_
 refine PX.G [(.e 45 (.sc (.bool false)))] [] 7 [] [] [.au,.au] [0,1,3,6,9,10,11,32,45] [1,2,3,4,5,6] hS hE trivial fun a w hS=>?_
 refine PX.cond_s false hS (by kernel_rfl) (fun h2=>nomatch h2) (fun h2=>?_)
 refine PX.G [(.e 55 (.sc (.bool false)))] [] 7 [] [] [.au,.au] [0,1,3,6,9,10,11,32,55] [1,2,3,4,5,6] hS hE trivial fun a w hS=>?_
 refine PX.cond_s false hS (by kernel_rfl) (fun h3=>nomatch h3) (fun h3=>?_)
 refine PX.G [(.e 64 (.sc (.bool false)))] [] 7 [] [] [.au,.au] [0,1,3,6,9,10,11,32,64] [1,2,3,4,5,6] hS hE trivial fun a w hS=>?_
 refine PX.cond_s false hS (by kernel_rfl) (fun h4=>nomatch h4) (fun h4=>?_)
 refine PX.G [(.e 104 (.sc (.bool false)))] [] 7 [] [] [.au,.au] [0,1,3,6,9,10,11,32,104] [1,2,3,4,5,6] hS hE trivial fun a w hS=>?_
 refine PX.cond_s false hS (by kernel_rfl) (fun h5=>nomatch h5) (fun h5=>?_)
 refine PX.G [(.e 132 (.sc (.bool false)))] [] 7 [] [] [.au,.au] [0,1,3,6,9,10,11,32,132] [1,2,3,4,5,6] hS hE trivial fun a w hS=>?_
 refine PX.cond_s false hS (by kernel_rfl) (fun h6=>nomatch h6) (fun h6=>?_)
 refine PX.G [(.e 151 (.sc (.bool false)))] [] 7 [] [] [.au,.au] [0,1,3,6,9,10,11,32,151] [1,2,3,4,5,6] hS hE trivial fun a w hS=>?_
 refine PX.cond_s false hS (by kernel_rfl) (fun h7=>nomatch h7) (fun h7=>?_)
 refine wp_seq_k fun K8 hK8=>?_
 refine PX.G [(.e 165 (.sc (.bool false)))] [] 7 [] [] [.au,.au] [0,1,3,6,9,10,11,32,165] [1,2,3,4,5,6] hS hE trivial fun a w hS=>?_
 refine PX.cond_s false hS (by kernel_rfl) (fun h9=>nomatch h9) (fun h9=>?_)
 refine PX.G0 [(.e 165 (.sc (.bool false)))] [] 7 [] [] [.au,.au] [0,1,3,6,9,10,11,32,165] [1,2,3,4,5,6] hS hE trivial fun a w hS=>?_
 refine hK8 _ _ ?_
 refine PX.cond_s false hS (by kernel_rfl) (fun h10=>nomatch h10) (fun h10=>?_)
 refine PX.G [(.e 209 (.sc (.bool true)))] [] 7 [] [] [.au,.au] [1,9,10,11,209] [1,2,3,4,6] hS hE trivial fun a w hS=>?_
 refine PX.cond_s true hS (by kernel_rfl) (fun h11=>?_) (fun h11=>nomatch h11)
 refine wp_skip ?_
 refine hK1 _ _ ?_
 refine PX.G [(.e 8 (.sc (.bool true)))] [] 7 [] [] [.au] [8] [1,2,3,4] hS hE trivial fun a w hS=>?_
 refine wp_ret ?_
 try simp only [Exit.then,Exit.inBlock,Nat.reduceEqDiff,↓reduceIte]
 exact PX.ret_s hS hE (by kernel_rfl) (by kernel_rfl) (by kernel_rfl) (.inl rfl)

set_option maxHeartbeats 1000000 in
theorem sh95_0k1 (z:Int):PX.Con Try.prog 95 [(.ptr 1 0),(.ptr 2 0),(.agg [(.J 1),(.imm 11 shRc7ce6f),(.J 4),(.J 1),(.J 0),(.imm 1 ([])),(.sc (.I (-1))),(.imm 1 ([])),(.sc (.I (-1))),(.imm 1 ([]))]),(.J 1)] [(1,.box 116 [(.sc (.slice none 0 0)),(.sc (.slice none 0 0)),(.imm 1 ([[(.imm 7 shR2c9698)]])),(.sc (.slice none 0 0)),(.imm 4 shR20c178),(.J 3),(.J 0),(.J 3),(.J 0),(.J 1),(.own 4 1 1),(.sc (.slice none 0 0)),(.J 0),(.sc (.bool false)),(.J 0),(.sc (.slice none 0 0))]),(2,.box 142 [(.J 0),.any,(.map 3),.any,.any,.any,.any,.any,.any,.any,.any]),(3,.mp ([(0,.I z)])),(4,.row 138 1 false ([[(.ptr 2 0)]]))] 5 100000 (.sc (.bool true)) [(1,some (.box 116 [(.sc (.slice none 0 0)),(.sc (.slice none 0 0)),(.imm 1 ([[(.imm 7 shR2c9698)]])),(.sc (.slice none 0 0)),(.imm 4 shR20c178),(.J 3),(.J 0),(.J 3),(.J 1),(.J 0),(.own 4 1 1),(.imm 1 ([[(.imm 3 shR3542f3)]])),(.J 0),(.sc (.bool false)),(.J 0),(.sc (.slice none 0 0))])),(2,some (.box 142 [(.J 0),.any,(.map 3),.any,.any,.any,.any,.any,.any,.any,.any])),(3,some (.mp ([(0,.I z)]))),(4,some (.row 138 1 false ([[(.ptr 2 0)]])))]:=by
 refine PX.con_intro [(.ptr 1 0),(.ptr 2 0),(.agg [(.J 1),(.imm 11 shRc7ce6f),(.J 4),(.J 1),(.J 0),(.imm 1 ([])),(.sc (.I (-1))),(.imm 1 ([])),(.sc (.I (-1))),(.imm 1 ([]))]),(.J 1)] 211 Try.func95 rfl rfl (by kernel_rfl) (by kernel_rfl) ?_
 intro E a hE hS
 generalize E.w0=w at hS ⊢
 have mix:=mixed
 refine PX.G [(.e 6 (.ptr 5 0))] [(5,.box 62 [(.J 1),(.imm 11 shRc7ce6f),(.J 4),(.J 1),(.J 0),(.imm 1 ([])),(.sc (.I (-1))),(.imm 1 ([])),(.sc (.I (-1))),(.imm 1 ([]))])] 6 [] [] [.au,.au] [0,1,3,6] [1,2,3,4,5] hS hE trivial fun a w hS=>?_
 refine PX.G [(.e 9 (.ptr 6 0))] [(6,.box 74 [(.J 19),(.J 0),(.J 0),(.J 0),(.J 3),(.J 0),(.J 0),(.J 0),(.J 0),(.J 0),(.J 0)])] 7 [.q (1=((1:Nat):Int)),.q (shRc7ce6f[1]?=some ([(.J 19),(.J 0),(.J 0),(.J 0),(.J 3),(.J 0),(.J 0),(.J 0),(.J 0),(.J 0),(.J 0)]))] [] [.au,.au,.au,.ix 1 ([(.J 19),(.J 0),(.J 0),(.J 0),(.J 3),(.J 0),(.J 0),(.J 0),(.J 0),(.J 0),(.J 0)]),.au,.au,.au] [0,1,3,6,9] [1,2,3,4,5,6] hS hE ⟨rfl,rfl,trivial⟩ fun a w hS=>?_
 refine PX.D [(.e 10 (.J z)),(.e 11 (.J z))] [] 7 [.q ((.sc ((PX.findV ([(0,.I z)]) 0).getD (.I 0)):PX.PV)=(.J z)),.q ((.sc ((PX.findV ([(0,.I z)]) 0).getD (.I 0)):PX.PV)=(.J z))] [] [.au,.au,.au,.au,.au,.au,.nm (.J z),.au,.au,.au,.au,.au,.au,.nm (.J z),.au,.au] [0,1,3,6,9,10,11] [1,2,3,4,5,6] hS mixed hE ⟨rfl,rfl,trivial⟩ fun a w hS=>?_
 refine wp_seq_k fun K1 hK1=>?_
 refine PX.G [(.e 32 (.J 19))] [] 7 [] [] [.au,.au] [0,1,3,6,9,10,11,32] [1,2,3,4,5,6] hS hE trivial fun a w hS=>?_
 refine wp_block ?_
 refine PX.G [(.e 45 (.sc (.bool false)))] [] 7 [] [] [.au,.au] [0,1,3,6,9,10,11,32,45] [1,2,3,4,5,6] hS hE trivial fun a w hS=>?_
 refine PX.cond_s false hS (by kernel_rfl) (fun h2=>nomatch h2) (fun h2=>?_)
 refine PX.G [(.e 55 (.sc (.bool false)))] [] 7 [] [] [.au,.au] [0,1,3,6,9,10,11,32,55] [1,2,3,4,5,6] hS hE trivial fun a w hS=>?_
 refine PX.cond_s false hS (by kernel_rfl) (fun h3=>nomatch h3) (fun h3=>?_)
 refine PX.G [(.e 64 (.sc (.bool false)))] [] 7 [] [] [.au,.au] [0,1,3,6,9,10,11,32,64] [1,2,3,4,5,6] hS hE trivial fun a w hS=>?_
 refine PX.cond_s false hS (by kernel_rfl) (fun h4=>nomatch h4) (fun h4=>?_)
 refine PX.G [(.e 104 (.sc (.bool false)))] [] 7 [] [] [.au,.au] [0,1,3,6,9,10,11,32,104] [1,2,3,4,5,6] hS hE trivial fun a w hS=>?_
 refine PX.cond_s false hS (by kernel_rfl) (fun h5=>nomatch h5) (fun h5=>?_)
 refine PX.G [(.e 132 (.sc (.bool false)))] [] 7 [] [] [.au,.au] [0,1,3,6,9,10,11,32,132] [1,2,3,4,5,6] hS hE trivial fun a w hS=>?_
 refine PX.cond_s false hS (by kernel_rfl) (fun h6=>nomatch h6) (fun h6=>?_)
 refine PX.G [(.e 151 (.sc (.bool false)))] [] 7 [] [] [.au,.au] [0,1,3,6,9,10,11,32,151] [1,2,3,4,5,6] hS hE trivial fun a w hS=>?_
 refine PX.cond_s false hS (by kernel_rfl) (fun h7=>nomatch h7) (fun h7=>?_)
 refine wp_seq_k fun K8 hK8=>?_
 refine PX.G [(.e 165 (.sc (.bool true)))] [] 7 [] [] [.au,.au] [0,1,3,6,9,10,11,32,165] [1,2,3,4,5,6] hS hE trivial fun a w hS=>?_
 refine PX.cond_s true hS (by kernel_rfl) (fun h9=>?_) (fun h9=>nomatch h9)
 refine wp_skip ?_
 refine hK8 _ _ ?_
 refine PX.cond_s true hS (by kernel_rfl) (fun h10=>?_) (fun h10=>nomatch h10)
 refine wp_seq_k fun K11 hK11=>?_
 refine PX.D [(.e 181 (.sc (.bool false)))] [] 7 [] [] [.au,.au,.au,.au,.au,.au,.au,.au,.au,.au,.au,.au,.au,.au] [0,1,3,6,9,181] [1,2,3,4,5,6] hS mixed hE trivial fun a w hS=>?_
 refine PX.cond_s false hS (by kernel_rfl) (fun h12=>nomatch h12) (fun h12=>?_)
 refine wp_skip ?_
 refine hK11 _ _ ?_
 refine PX.D [] [(2,.box 142 [(.J 0),.any,(.map 3),.any,(.J 0),(.J 3),(.imm 11 shR439b68),.any,.any,.any,.any])] 7 [.q ((0:Nat)≤1),.q (1≤shRc7ce6f.length),.q ((shRc7ce6f.take 1).drop 0=shR439b68),.q ((0:Nat)=0),.q (1=((1:Nat):Int)),.q (PX.Con Try.prog 132 [(.imm 11 shR439b68)] [] 7 7 (.imm 11 shR439b68) [])] [] [.au,.au,.au,.au,.au,.au,.au,.au,.au,.au,.sl 0 1 shR439b68,.cl [] (.imm 11 shR439b68) [] 7,.au,.au,.au,.au,.au,.au,.au,.au,.au] [0,9] [1,2,3,4,6] hS mixed hE ⟨by decide,by decide,rfl,rfl,rfl,PX.con_any (sh132_0 z),trivial⟩ fun a w hS=>?_
 refine PX.G [(.e 8 (.sc (.bool true)))] [(1,.box 116 [(.sc (.slice none 0 0)),(.sc (.slice none 0 0)),(.imm 1 ([[(.imm 7 shR2c9698)]])),(.sc (.slice none 0 0)),(.imm 4 shR20c178),(.J 3),(.J 0),(.J 3),(.J 1),(.J 0),(.own 4 1 1),(.imm 1 ([[(.imm 3 shR3542f3)]])),(.J 0),(.sc (.bool false)),(.J 0),(.sc (.slice none 0 0))]),(2,.box 142 [(.J 0),.any,(.map 3),.any,(.J 0),(.J 3),(.imm 11 shR439b68),.any,.any,.any,.any]),(3,.mp ([(0,.I z)])),(4,.row 138 1 false ([[(.ptr 2 0)]]))] 7 [.q (PX.Con Try.prog 131 [(.ptr 1 0)] [(1,.box 116 [(.sc (.slice none 0 0)),(.sc (.slice none 0 0)),(.imm 1 ([[(.imm 7 shR2c9698)]])),(.sc (.slice none 0 0)),(.imm 4 shR20c178),(.J 3),(.J 0),(.J 3),(.J 0),(.J 1),(.own 4 1 1),(.sc (.slice none 0 0)),(.J 0),(.sc (.bool false)),(.J 0),(.sc (.slice none 0 0))]),(2,.box 142 [(.J 0),.any,(.map 3),.any,(.J 0),(.J 3),(.imm 11 shR439b68),.any,.any,.any,.any]),(3,.mp ([(0,.I z)])),(4,.row 138 1 false ([[(.ptr 2 0)]]))] 7 7 (.sc (.bool true)) [(1,some (.box 116 [(.sc (.slice none 0 0)),(.sc (.slice none 0 0)),(.imm 1 ([[(.imm 7 shR2c9698)]])),(.sc (.slice none 0 0)),(.imm 4 shR20c178),(.J 3),(.J 0),(.J 3),(.J 1),(.J 0),(.own 4 1 1),(.imm 1 ([[(.imm 3 shR3542f3)]])),(.J 0),(.sc (.bool false)),(.J 0),(.sc (.slice none 0 0))])),(2,some (.box 142 [(.J 0),.any,(.map 3),.any,(.J 0),(.J 3),(.imm 11 shR439b68),.any,.any,.any,.any])),(3,some (.mp ([(0,.I z)]))),(4,some (.row 138 1 false ([[(.ptr 2 0)]])))])] [] [.au,.au,.au,.au,.au,.cl [1,2,3,4] (.sc (.bool true)) [(1,some (.box 116 [(.sc (.slice none 0 0)),(.sc (.slice none 0 0)),(.imm 1 ([[(.imm 7 shR2c9698)]])),(.sc (.slice none 0 0)),(.imm 4 shR20c178),(.J 3),(.J 0),(.J 3),(.J 1),(.J 0),(.own 4 1 1),(.imm 1 ([[(.imm 3 shR3542f3)]])),(.J 0),(.sc (.bool false)),(.J 0),(.sc (.slice none 0 0))])),(2,some (.box 142 [(.J 0),.any,(.map 3),.any,(.J 0),(.J 3),(.imm 11 shR439b68),.any,.any,.any,.any])),(3,some (.mp ([(0,.I z)]))),(4,some (.row 138 1 false ([[(.ptr 2 0)]])))] 7,.au,.au] [8] [1,2,3,4] hS hE ⟨PX.con_as [(1,1),(2,2),(3,3),(4,4)] [(1,1),(2,2),(3,3),(4,4)] (sh131_0 z) (by kernel_rfl) (by kernel_rfl) (by kernel_rfl) (by kernel_rfl) (by kernel_rfl) (by kernel_rfl),trivial⟩ fun a w hS=>?_
 refine wp_ret ?_
 try simp only [Exit.then,Exit.inBlock,Nat.reduceEqDiff,↓reduceIte]
 replace hS:=PX.recell (id:=2) (j:=4) .any hS rfl rfl rfl (PX.any_of rfl)
 replace hS:=PX.recell (id:=2) (j:=5) .any hS rfl rfl rfl (PX.any_of rfl)
 replace hS:=PX.recell (id:=2) (j:=6) .any hS rfl rfl rfl (PX.any_of rfl)
 exact PX.ret_s hS hE (by kernel_rfl) (by kernel_rfl) (by kernel_rfl) (.inl rfl)

set_option maxHeartbeats 1000000 in
theorem sh95_0k2 (z:Int):PX.Con Try.prog 95 [(.ptr 1 0),(.ptr 2 0),(.agg [(.J 1),(.imm 11 shRc7ce6f),(.J 4),(.J 1),(.J 0),(.imm 1 ([])),(.sc (.I (-1))),(.imm 1 ([])),(.sc (.I (-1))),(.imm 1 ([]))]),(.J 2)] [(1,.box 116 [(.sc (.slice none 0 0)),(.sc (.slice none 0 0)),(.imm 1 ([[(.imm 7 shR2c9698)]])),(.sc (.slice none 0 0)),(.imm 4 shR20c178),(.J 3),(.J 0),(.J 3),(.J 1),(.J 0),(.own 4 1 1),(.imm 1 ([[(.imm 3 shR3542f3)]])),(.J 0),(.sc (.bool false)),(.J 0),(.sc (.slice none 0 0))]),(2,.box 142 [(.J 0),.any,(.map 3),.any,.any,.any,.any,.any,.any,.any,.any]),(3,.mp ([(0,.I z)])),(4,.row 138 1 false ([[(.ptr 2 0)]]))] 5 100000 (.sc (.bool true)) [(1,some (.box 116 [(.sc (.slice none 0 0)),(.sc (.slice none 0 0)),(.imm 1 ([[(.imm 7 shR2c9698)]])),(.sc (.slice none 0 0)),(.imm 4 shR20c178),(.J 3),(.J 0),(.J 3),(.J 1),(.J 0),(.own 4 1 1),(.imm 1 ([[(.imm 3 shR3542f3)]])),(.J 0),(.sc (.bool false)),(.J 0),(.sc (.slice none 0 0))])),(2,some (.box 142 [(.J 0),.any,(.map 3),.any,.any,.any,.any,.any,.any,.any,.any])),(3,some (.mp (PX.updV [(0,.I z)] 1 (.I (IntKind.i64.wrap (z+z)))))),(4,some (.row 138 1 false ([[(.ptr 2 0)]])))]:=by
 refine PX.con_intro [(.ptr 1 0),(.ptr 2 0),(.agg [(.J 1),(.imm 11 shRc7ce6f),(.J 4),(.J 1),(.J 0),(.imm 1 ([])),(.sc (.I (-1))),(.imm 1 ([])),(.sc (.I (-1))),(.imm 1 ([]))]),(.J 2)] 211 Try.func95 rfl rfl (by kernel_rfl) (by kernel_rfl) ?_
 intro E a hE hS
 generalize E.w0=w at hS ⊢
 have mix:=mixed
 refine PX.G [(.e 6 (.ptr 5 0))] [(5,.box 62 [(.J 1),(.imm 11 shRc7ce6f),(.J 4),(.J 1),(.J 0),(.imm 1 ([])),(.sc (.I (-1))),(.imm 1 ([])),(.sc (.I (-1))),(.imm 1 ([]))])] 6 [] [] [.au,.au] [0,1,3,6] [1,2,3,4,5] hS hE trivial fun a w hS=>?_
 refine PX.G [(.e 9 (.ptr 6 0))] [(6,.box 74 [(.J 3),(.J 1),(.J 0),(.J 0),(.J 0),(.J 0),(.J 0),(.J 0),(.J 0),(.J 0),(.J 0)])] 7 [.q (2=((2:Nat):Int)),.q (shRc7ce6f[2]?=some ([(.J 3),(.J 1),(.J 0),(.J 0),(.J 0),(.J 0),(.J 0),(.J 0),(.J 0),(.J 0),(.J 0)]))] [] [.au,.au,.au,.ix 2 ([(.J 3),(.J 1),(.J 0),(.J 0),(.J 0),(.J 0),(.J 0),(.J 0),(.J 0),(.J 0),(.J 0)]),.au,.au,.au] [0,1,3,6,9] [1,2,3,4,5,6] hS hE ⟨rfl,rfl,trivial⟩ fun a w hS=>?_
 refine PX.D [(.e 10 (.J z)),(.e 11 (.J z))] [] 7 [.q ((.sc ((PX.findV ([(0,.I z)]) 0).getD (.I 0)):PX.PV)=(.J z)),.q ((.sc ((PX.findV ([(0,.I z)]) 0).getD (.I 0)):PX.PV)=(.J z))] [] [.au,.au,.au,.au,.au,.au,.nm (.J z),.au,.au,.au,.au,.au,.au,.nm (.J z),.au,.au] [0,1,3,6,9,10,11] [1,2,3,4,5,6] hS mixed hE ⟨rfl,rfl,trivial⟩ fun a w hS=>?_
 refine wp_seq_k fun K1 hK1=>?_
 refine PX.G [(.e 32 (.J 3))] [] 7 [] [] [.au,.au] [0,1,3,6,9,10,11,32] [1,2,3,4,5,6] hS hE trivial fun a w hS=>?_
 refine wp_block ?_
 refine PX.G [(.e 45 (.sc (.bool false)))] [] 7 [] [] [.au,.au] [0,1,3,6,9,10,11,32,45] [1,2,3,4,5,6] hS hE trivial fun a w hS=>?_
 refine PX.cond_s false hS (by kernel_rfl) (fun h2=>nomatch h2) (fun h2=>?_)
 refine PX.G [(.e 55 (.sc (.bool false)))] [] 7 [] [] [.au,.au] [0,1,3,6,9,10,11,32,55] [1,2,3,4,5,6] hS hE trivial fun a w hS=>?_
 refine PX.cond_s false hS (by kernel_rfl) (fun h3=>nomatch h3) (fun h3=>?_)
 refine PX.G [(.e 64 (.sc (.bool false)))] [] 7 [] [] [.au,.au] [0,1,3,6,9,10,11,32,64] [1,2,3,4,5,6] hS hE trivial fun a w hS=>?_
 refine PX.cond_s false hS (by kernel_rfl) (fun h4=>nomatch h4) (fun h4=>?_)
 refine PX.G [(.e 104 (.sc (.bool false)))] [] 7 [] [] [.au,.au] [0,1,3,6,9,10,11,32,104] [1,2,3,4,5,6] hS hE trivial fun a w hS=>?_
 refine PX.cond_s false hS (by kernel_rfl) (fun h5=>nomatch h5) (fun h5=>?_)
 refine PX.G [(.e 132 (.sc (.bool false)))] [] 7 [] [] [.au,.au] [0,1,3,6,9,10,11,32,132] [1,2,3,4,5,6] hS hE trivial fun a w hS=>?_
 refine PX.cond_s false hS (by kernel_rfl) (fun h6=>nomatch h6) (fun h6=>?_)
 refine PX.G [(.e 151 (.sc (.bool false)))] [] 7 [] [] [.au,.au] [0,1,3,6,9,10,11,32,151] [1,2,3,4,5,6] hS hE trivial fun a w hS=>?_
 refine PX.cond_s false hS (by kernel_rfl) (fun h7=>nomatch h7) (fun h7=>?_)
 refine wp_seq_k fun K8 hK8=>?_
 refine PX.G [(.e 165 (.sc (.bool false)))] [] 7 [] [] [.au,.au] [0,1,3,6,9,10,11,32,165] [1,2,3,4,5,6] hS hE trivial fun a w hS=>?_
 refine PX.cond_s false hS (by kernel_rfl) (fun h9=>nomatch h9) (fun h9=>?_)
 refine PX.G0 [(.e 165 (.sc (.bool false)))] [] 7 [] [] [.au,.au] [0,1,3,6,9,10,11,32,165] [1,2,3,4,5,6] hS hE trivial fun a w hS=>?_
 refine hK8 _ _ ?_
 refine PX.cond_s false hS (by kernel_rfl) (fun h10=>nomatch h10) (fun h10=>?_)
 refine PX.G [(.e 209 (.sc (.bool false)))] [] 7 [] [] [.au,.au] [1,9,10,11,209] [1,2,3,4,6] hS hE trivial fun a w hS=>?_
 refine PX.cond_s false hS (by kernel_rfl) (fun h11=>nomatch h11) (fun h11=>?_)
 refine PX.D0 [] [(3,.mp (PX.updV ([(0,.I z)]) 1 (.I (IntKind.i64.wrap (z+z)))))] 7 [.q (PX.Con Try.prog 133 [(.J 0),(.J z),(.J z)] [] 7 7 (.sc (.I (IntKind.i64.wrap (z+z)))) [])] [] [.au,.au,.au,.au,.au,.au,.au,.au,.au,.au,.au,.cl [] (.sc (.I (IntKind.i64.wrap (z+z)))) [] 7,.au] [] [1,2,3,4] hS mixed hE ⟨PX.con_any (sh133_0 z),trivial⟩ fun a w hS=>?_
 refine hK1 _ _ ?_
 refine PX.G [(.e 8 (.sc (.bool true)))] [] 7 [] [] [.au] [8] [1,2,3,4] hS hE trivial fun a w hS=>?_
 refine wp_ret ?_
 try simp only [Exit.then,Exit.inBlock,Nat.reduceEqDiff,↓reduceIte]
 exact PX.ret_s hS hE (by kernel_rfl) (by kernel_rfl) (by kernel_rfl) (.inl rfl)

set_option maxHeartbeats 400000 in
theorem sh94_0 (z:Int):PX.Con Try.prog 94 [(.ptr 1 0),(.J 0),(.imm 1 ([[(.J z)]]))] [(1,.box 116 [(.sc (.slice none 0 0)),(.sc (.slice none 0 0)),(.imm 1 ([[(.imm 7 shR2c9698)]])),(.sc (.slice none 0 0)),(.imm 4 shR20c178),(.J 3),(.J 0),(.J 3),(.J 0),(.J 0),(.sc (.slice none 0 0)),(.sc (.slice none 0 0)),(.J 0),(.sc (.bool false)),(.J 0),(.sc (.slice none 0 0))])] 2 100000 (.sc (.bool true)) [(1,some (.box 116 [(.sc (.slice none 0 0)),(.sc (.slice none 0 0)),(.imm 1 ([[(.imm 7 shR2c9698)]])),(.sc (.slice none 0 0)),(.imm 4 shR20c178),(.J 3),(.J 0),(.J 3),(.J 0),(.J 0),(.own 3 1 1),(.sc (.slice none 0 0)),(.J 0),(.sc (.bool false)),(.J 0),(.sc (.slice none 0 0))])),(2,some (.box 142 [(.J 0),.any,.any,.any,.any,.any,.any,.any,.any,.any,.any])),(3,some (.row 138 1 false ([[(.ptr 2 0)]])))]:=by
 refine PX.con_intro [(.ptr 1 0),(.J 0),(.imm 1 ([[(.J z)]]))] 61 Try.func94 rfl rfl (by kernel_rfl) (by kernel_rfl) ?_
 intro E a hE hS
 generalize E.w0=w at hS ⊢
 have mix:=mixed
 refine PX.G [(.e 6 (.sc (.bool false)))] [] 2 [] [] [.au] [0,1,2,6] [1] hS hE trivial fun a w hS=>?_
 refine wp_seq_k fun K1 hK1=>?_
 refine PX.G [(.e 15 (.sc (.bool false)))] [] 2 [] [] [.au,.au,.au,.au,.au,.au] [0,1,2,6,15] [1] hS hE trivial fun a w hS=>?_
 refine PX.cond_s false hS (by kernel_rfl) (fun h2=>nomatch h2) (fun h2=>?_)
 refine wp_skip ?_
 refine hK1 _ _ ?_
 refine PX.G [(.e 7 (.ptr 2 0))] [(2,.box 142 [(.J 0),(.imm 1 ([[(.J z)]])),(.sc (.map none)),(.sc (.slice none 0 0)),(.J 0),(.sc (.I (-1))),(.sc (.slice none 0 0)),(.J 0),(.sc (.slice none 0 0)),(.J 0),(.sc (.slice none 0 0))])] 3 [] [] [.au,.au,.au,.au,.au] [0,1,6,7] [1,2] hS hE trivial fun a w hS=>?_
 refine wp_seq_k fun K3 hK3=>?_
 refine PX.G [(.e 32 (.imm 3 ([]))),(.e 33 (.J 0)),(.e 34 (.J 0))] [] 3 [.q (0=((0:Nat):Int)),.q (shR20c178[0]?=some ([(.J 1),(.imm 10 shR912a32),(.imm 3 shR8cf714),(.imm 3 ([]))])),.q ((.sc (.I ((([]:List (List PX.PV)).length:Nat):Int)):PX.PV)=(.J 0))] [] [.au,.au,.au,.au,.au,.au,.ix 0 ([(.J 1),(.imm 10 shR912a32),(.imm 3 shR8cf714),(.imm 3 ([]))]),.au,.au,.nm (.J 0),.au] [0,6,7,32,33,34] [1,2] hS hE ⟨rfl,rfl,rfl,trivial⟩ fun a w hS=>?_
 refine wp_block ?_
 refine wp_loop_rounds 1 ?_
 rw [rounds_succ]
 refine PX.G [(.e 35 (.sc (.bool false)))] [] 3 [] [] [.au] [0,6,7,32,33,34,35] [1,2] hS hE trivial fun a w hS=>?_
 refine wp_seq_k fun K4 hK4=>?_
 refine PX.cond_s false hS (by kernel_rfl) (fun h5=>nomatch h5) (fun h5=>?_)
 refine wp_exit ?_
 refine hK3 _ _ ?_
 refine PX.G [] [(1,.box 116 [(.sc (.slice none 0 0)),(.sc (.slice none 0 0)),(.imm 1 ([[(.imm 7 shR2c9698)]])),(.sc (.slice none 0 0)),(.imm 4 shR20c178),(.J 3),(.J 0),(.J 3),(.J 0),(.J 0),(.own 4 1 1),(.sc (.slice none 0 0)),(.J 0),(.sc (.bool false)),(.J 0),(.sc (.slice none 0 0))]),(4,.row 138 1 false ([[(.ptr 2 0)]]))] 5 [.b true,.b (lenIs 1 ([[(.ptr 2 0)]])),.b (Nat.ble (1) 1000000000)] [] [.au,.au,.au,.au,.au,.au,.au,.au,.au,.au,.au] [6] [1,2,4] hS hE ⟨rfl,rfl,rfl,trivial⟩ fun a w hS=>?_
 refine PX.G [(.e 6 (.sc (.bool true)))] [] 5 [] [] [.au] [6] [1,2,4] hS hE trivial fun a w hS=>?_
 refine wp_ret ?_
 try simp only [Exit.then,Exit.inBlock,Nat.reduceEqDiff,↓reduceIte]
 replace hS:=PX.recell (id:=2) (j:=1) .any hS rfl rfl rfl (PX.any_of rfl)
 replace hS:=PX.recell (id:=2) (j:=2) .any hS rfl rfl rfl (PX.any_of rfl)
 replace hS:=PX.recell (id:=2) (j:=3) .any hS rfl rfl rfl (PX.any_of rfl)
 replace hS:=PX.recell (id:=2) (j:=4) .any hS rfl rfl rfl (PX.any_of rfl)
 replace hS:=PX.recell (id:=2) (j:=5) .any hS rfl rfl rfl (PX.any_of rfl)
 replace hS:=PX.recell (id:=2) (j:=6) .any hS rfl rfl rfl (PX.any_of rfl)
 replace hS:=PX.recell (id:=2) (j:=7) .any hS rfl rfl rfl (PX.any_of rfl)
 replace hS:=PX.recell (id:=2) (j:=8) .any hS rfl rfl rfl (PX.any_of rfl)
 replace hS:=PX.recell (id:=2) (j:=9) .any hS rfl rfl rfl (PX.any_of rfl)
 replace hS:=PX.recell (id:=2) (j:=10) .any hS rfl rfl rfl (PX.any_of rfl)
 replace hS:=(PX.canon [(3,4)] [(.e 6 (.sc (.bool true)))] [(1,.box 116 [(.sc (.slice none 0 0)),(.sc (.slice none 0 0)),(.imm 1 ([[(.imm 7 shR2c9698)]])),(.sc (.slice none 0 0)),(.imm 4 shR20c178),(.J 3),(.J 0),(.J 3),(.J 0),(.J 0),(.own 3 1 1),(.sc (.slice none 0 0)),(.J 0),(.sc (.bool false)),(.J 0),(.sc (.slice none 0 0))]),(2,.box 142 [(.J 0),.any,.any,.any,.any,.any,.any,.any,.any,.any,.any]),(3,.row 138 1 false ([[(.ptr 2 0)]]))] 4 hS hE (by kernel_rfl) (by kernel_rfl) (by kernel_rfl))
 exact PX.ret_s hS hE (by kernel_rfl) (by kernel_rfl) (by kernel_rfl) (.inl rfl)

set_option maxHeartbeats 1000000 in
theorem sh97_0 (z:Int):PX.Con Try.prog 97 [(.ptr 1 0),(.sc (.I (IntKind.i64.wrap (z+z)))),(.sc (.bool false))] [(1,.box 116 [(.sc (.slice none 0 0)),(.sc (.slice none 0 0)),(.imm 1 ([[(.imm 7 shR2c9698)]])),(.sc (.slice none 0 0)),(.imm 4 shR20c178),(.J 3),(.J 0),(.J 3),(.J 1),(.J 0),(.own 4 1 1),(.imm 1 ([[(.imm 3 shR3542f3)]])),(.J 0),(.sc (.bool false)),(.J 0),(.sc (.slice none 0 0))]),(2,.box 142 [(.J 0),.any,(.map 3),.any,.any,.any,.any,.any,.any,.any,.any]),(3,.mp (PX.updV [(0,.I z)] 1 (.I (IntKind.i64.wrap (z+z))))),(4,.row 138 1 false ([[(.ptr 2 0)]]))] 5 100000 (.tup [.sc (.I (-1)),.sc (.slice none 0 0)]) [(1,some (.box 116 [(.sc (.slice none 0 0)),(.sc (.slice none 0 0)),(.imm 1 ([[(.imm 7 shR2c9698)]])),(.sc (.slice none 0 0)),(.imm 4 shR20c178),(.J 3),(.J 0),(.J 3),(.J 1),(.J 0),.any,(.imm 1 ([[(.imm 3 shR3542f3)]])),(.J 0),(.sc (.bool false)),(.sc (.I (IntKind.i64.wrap (z+z)))),(.sc (.slice none 0 0))])),(2,none),(3,none),(4,none)]:=by
 refine PX.con_intro [(.ptr 1 0),(.sc (.I (IntKind.i64.wrap (z+z)))),(.sc (.bool false))] 77 Try.func97 rfl rfl (by kernel_rfl) (by kernel_rfl) ?_
 intro E a hE hS
 generalize E.w0=w at hS ⊢
 have mix:=mixed
 refine PX.G [] [] 5 [] [] [.au,.au] [0,1,2] [1,2,3,4] hS hE trivial fun a w hS=>?_
 refine wp_block ?_
 refine wp_loop_rounds 1 ?_
 rw [rounds_succ]
 refine wp_block ?_
 refine PX.D [] [(1,.box 116 [(.sc (.slice none 0 0)),(.sc (.slice none 0 0)),(.imm 1 ([[(.imm 7 shR2c9698)]])),(.sc (.slice none 0 0)),(.imm 4 shR20c178),(.J 3),(.J 0),(.J 3),(.J 1),(.J 0),(.own 6 1 0),(.imm 1 ([[(.imm 3 shR3542f3)]])),(.J 0),(.sc (.bool false)),(.J 0),(.sc (.slice none 0 0))]),(6,.row 138 1 true ([]))] 7 [.q ((.sc (.I ((1:Nat):Int)):PX.PV)=(.J 1)),.q ((0:Nat)=0),.q (0=((0:Nat):Int)),.b (lenIs 0 ([])),.b true,.b (Nat.ble (0) 1000000000)] [] [.au,.au,.au,.au,.au,.au,.au,.au,.au,.au,.nm (.J 1),.au,.sl 0 0 [],.au,.au,.au,.au] [0,1,2] [1,6] hS mixed hE ⟨rfl,rfl,rfl,rfl,rfl,rfl,trivial⟩ fun a w hS=>?_
 refine wp_seq_k fun K1 hK1=>?_
 refine PX.G [(.e 31 (.sc (.bool true)))] [] 7 [.q ((.sc (.I ((0:Nat):Int)):PX.PV)=(.J 0))] [] [.au,.au,.au,.au,.nm (.J 0),.au] [0,1,2,31] [1,6] hS hE ⟨rfl,trivial⟩ fun a w hS=>?_
 refine PX.cond_s true hS (by kernel_rfl) (fun h2=>?_) (fun h2=>nomatch h2)
 refine PX.G [] [(1,.box 116 [(.sc (.slice none 0 0)),(.sc (.slice none 0 0)),(.imm 1 ([[(.imm 7 shR2c9698)]])),(.sc (.slice none 0 0)),(.imm 4 shR20c178),(.J 3),(.J 0),(.J 3),(.J 1),(.J 0),(.own 6 1 0),(.imm 1 ([[(.imm 3 shR3542f3)]])),(.J 0),(.sc (.bool false)),(.sc (.I (IntKind.i64.wrap (z+z)))),(.sc (.slice none 0 0))])] 7 [] [] [.au,.au,.au,.au,.au,.au,.au,.au,.au,.au,.au,.au] [0,1,2] [1,6] hS hE trivial fun a w hS=>?_
 refine PX.G [(.e 6 (.sc (.I (-1)))),(.e 7 (.sc (.slice none 0 0)))] [] 7 [] [] [.au,.au] [0,1,2,6,7] [1,6] hS hE trivial fun a w hS=>?_
 refine wp_ret ?_
 try simp only [Exit.then,Exit.inBlock,Nat.reduceEqDiff,↓reduceIte]
 replace hS:=PX.recell (id:=1) (j:=10) .any hS rfl rfl rfl (PX.any_of rfl)
 exact PX.ret_s hS hE (by kernel_rfl) (by kernel_rfl) (by kernel_rfl) (.inl rfl)

set_option maxHeartbeats 2000000 in
theorem sh61_0 (z:Int):PX.Con Try.prog 61 [(.ptr 1 0),(.J 0),(.own 2 1 1)] [(1,.box 116 [(.sc (.slice none 0 0)),(.sc (.slice none 0 0)),(.imm 1 ([[(.imm 7 shR2c9698)]])),(.sc (.slice none 0 0)),(.imm 4 shR20c178),(.J 3),(.J 0),(.J 3),(.J 0),(.J 0),(.sc (.slice none 0 0)),(.sc (.slice none 0 0)),(.J 0),(.sc (.bool false)),(.J 0),(.sc (.slice none 0 0))]),(2,.row 3 1 true ([[(.J z)]]))] 3 100000 (.tup []) [(1,some (.box 116 [(.sc (.slice none 0 0)),(.sc (.slice none 0 0)),(.imm 1 ([[(.imm 7 shR2c9698)]])),(.sc (.slice none 0 0)),(.imm 4 shR20c178),(.J 3),(.J 0),(.J 3),.any,.any,.any,(.imm 1 ([[(.imm 3 shR3542f3)]])),(.J 0),(.sc (.bool false)),(.sc (.I (IntKind.i64.wrap (z+z)))),(.sc (.slice none 0 0))])),(2,none)]:=by
 refine PX.con_intro [(.ptr 1 0),(.J 0),(.own 2 1 1)] 185 Try.func61 rfl rfl (by kernel_rfl) (by kernel_rfl) ?_
 intro E a hE hS
 generalize E.w0=w at hS ⊢
 have mix:=mixed
 refine wp_seq_k fun K1 hK1=>?_
 replace hS:=PX.fz 2 [(.e 2 (.imm 1 ([[(.J z)]])))] [] [0,1,2] [1] [.b (PX.lenIs 1 ([[(.J z)]]))] hS ⟨(rfl),trivial⟩
 refine PX.G [(.e 18 (.sc (.bool false)))] [(1,.box 116 [(.sc (.slice none 0 0)),(.sc (.slice none 0 0)),(.imm 1 ([[(.imm 7 shR2c9698)]])),(.sc (.slice none 0 0)),(.imm 4 shR20c178),(.J 3),(.J 0),(.J 3),(.J 0),(.J 0),(.own 4 1 1),(.sc (.slice none 0 0)),(.J 0),(.sc (.bool false)),(.J 0),(.sc (.slice none 0 0))]),(3,.box 142 [(.J 0),.any,.any,.any,.any,.any,.any,.any,.any,.any,.any]),(4,.row 138 1 false ([[(.ptr 3 0)]]))] 5 [.q (PX.Con Try.prog 94 [(.ptr 1 0),(.J 0),(.imm 1 ([[(.J z)]]))] [(1,.box 116 [(.sc (.slice none 0 0)),(.sc (.slice none 0 0)),(.imm 1 ([[(.imm 7 shR2c9698)]])),(.sc (.slice none 0 0)),(.imm 4 shR20c178),(.J 3),(.J 0),(.J 3),(.J 0),(.J 0),(.sc (.slice none 0 0)),(.sc (.slice none 0 0)),(.J 0),(.sc (.bool false)),(.J 0),(.sc (.slice none 0 0))])] 3 5 (.sc (.bool true)) [(1,some (.box 116 [(.sc (.slice none 0 0)),(.sc (.slice none 0 0)),(.imm 1 ([[(.imm 7 shR2c9698)]])),(.sc (.slice none 0 0)),(.imm 4 shR20c178),(.J 3),(.J 0),(.J 3),(.J 0),(.J 0),(.own 4 1 1),(.sc (.slice none 0 0)),(.J 0),(.sc (.bool false)),(.J 0),(.sc (.slice none 0 0))])),(3,some (.box 142 [(.J 0),.any,.any,.any,.any,.any,.any,.any,.any,.any,.any])),(4,some (.row 138 1 false ([[(.ptr 3 0)]])))])] [] [.au,.au,.au,.cl [1] (.sc (.bool true)) [(1,some (.box 116 [(.sc (.slice none 0 0)),(.sc (.slice none 0 0)),(.imm 1 ([[(.imm 7 shR2c9698)]])),(.sc (.slice none 0 0)),(.imm 4 shR20c178),(.J 3),(.J 0),(.J 3),(.J 0),(.J 0),(.own 4 1 1),(.sc (.slice none 0 0)),(.J 0),(.sc (.bool false)),(.J 0),(.sc (.slice none 0 0))])),(3,some (.box 142 [(.J 0),.any,.any,.any,.any,.any,.any,.any,.any,.any,.any])),(4,some (.row 138 1 false ([[(.ptr 3 0)]])))] 5,.au] [0,2,18] [1,3,4] hS hE ⟨PX.con_as [(1,1),(3,2),(4,3)] [(1,1),(2,3),(3,4)] (sh94_0 z) (by kernel_rfl) (by kernel_rfl) (by kernel_rfl) (by kernel_rfl) (by kernel_rfl) (by kernel_rfl),trivial⟩ fun a w hS=>?_
 refine PX.cond_s false hS (by kernel_rfl) (fun h2=>nomatch h2) (fun h2=>?_)
 refine wp_skip ?_
 refine hK1 _ _ ?_
 refine PX.G [(.e 6 (.J 0))] [] 5 [] [] [.au] [0,2,6] [1,3,4] hS hE trivial fun a w hS=>?_
 refine wp_block ?_
 refine wp_loop_rounds 2 ?_
 rw [rounds_succ]
 refine wp_seq_k fun K3 hK3=>?_
 refine PX.G [(.e 20 (.sc (.bool true)))] [] 5 [] [] [.au,.au] [0,2,6,20] [1,3,4] hS hE trivial fun a w hS=>?_
 refine PX.cond_s true hS (by kernel_rfl) (fun h4=>?_) (fun h4=>nomatch h4)
 refine wp_skip ?_
 refine hK3 _ _ ?_
 refine wp_block ?_
 refine wp_seq_k fun K5 hK5=>?_
 refine PX.G [(.e 25 (.sc (.bool false)))] [] 5 [] [] [.au,.au,.au,.au,.au] [0,2,6,25] [1,3,4] hS hE trivial fun a w hS=>?_
 refine PX.cond_s false hS (by kernel_rfl) (fun h6=>nomatch h6) (fun h6=>?_)
 refine wp_skip ?_
 refine hK5 _ _ ?_
 refine PX.G [] [(1,.box 116 [(.sc (.slice none 0 0)),(.sc (.slice none 0 0)),(.imm 1 ([[(.imm 7 shR2c9698)]])),(.sc (.slice none 0 0)),(.imm 4 shR20c178),(.J 3),(.J 0),(.J 3),(.J 0),(.J 1),(.own 4 1 1),(.sc (.slice none 0 0)),(.J 0),(.sc (.bool false)),(.J 0),(.sc (.slice none 0 0))])] 5 [] [] [.au,.au,.au,.au,.au,.au,.au,.au] [0,2,6] [1,3,4] hS hE trivial fun a w hS=>?_
 refine PX.D [(.e 7 (.ptr 3 0))] [] 5 [.q ((.sc (.I ((1:Nat):Int)):PX.PV)=(.J 1)),.q (0=((0:Nat):Int)),.q (0<1)] [] [.au,.au,.au,.au,.au,.au,.au,.au,.nm (.J 1),.au,.ix 0 [],.au,.au] [0,2,6,7] [1,3,4] hS mixed hE ⟨rfl,by omega,by decide,trivial⟩ fun a w hS=>?_
 refine PX.D [(.e 8 (.ptr 5 0))] [(5,.box 62 [(.J 1),(.imm 11 shRc7ce6f),(.J 4),(.J 1),(.J 0),(.imm 1 ([])),(.sc (.I (-1))),(.imm 1 ([])),(.sc (.I (-1))),(.imm 1 ([]))])] 6 [.q (0=((0:Nat):Int)),.q (shR20c178[0]?=some ([(.J 1),(.imm 10 shR912a32),(.imm 3 shR8cf714),(.imm 3 ([]))])),.q (0=((0:Nat):Int)),.q (shR912a32[0]?=some ([(.J 1),(.imm 11 shRc7ce6f),(.J 4),(.J 1),(.J 0),(.imm 1 ([])),(.sc (.I (-1))),(.imm 1 ([])),(.sc (.I (-1))),(.imm 1 ([]))]))] [] [.au,.au,.au,.au,.au,.au,.au,.au,.au,.ix 0 ([(.J 1),(.imm 10 shR912a32),(.imm 3 shR8cf714),(.imm 3 ([]))]),.au,.au,.au,.ix 0 ([(.J 1),(.imm 11 shRc7ce6f),(.J 4),(.J 1),(.J 0),(.imm 1 ([])),(.sc (.I (-1))),(.imm 1 ([])),(.sc (.I (-1))),(.imm 1 ([]))]),.au,.au,.au] [0,2,6,7,8] [1,3,4,5] hS mixed hE ⟨rfl,rfl,rfl,rfl,trivial⟩ fun a w hS=>?_
 refine PX.G [] [(3,.box 142 [(.J 0),.any,(.map 6),.any,.any,(.sc (.I (-1))),(.sc (.slice none 0 0)),.any,.any,.any,.any]),(6,.mp ([]))] 7 [] [] [.au,.au,.au,.au,.au,.au,.au,.au,.au,.au,.au,.au,.au] [0,2,6,7,8] [1,3,4,5,6] hS hE trivial fun a w hS=>?_
 replace hS:=PX.recell (id:=3) (j:=5) .any hS rfl rfl rfl (PX.any_of rfl)
 replace hS:=PX.recell (id:=3) (j:=6) .any hS rfl rfl rfl (PX.any_of rfl)
 refine wp_seq_k fun K7 hK7=>?_
 refine PX.G [(.e 74 (.imm 1 ([[(.J z)]]))),(.e 75 (.J 1)),(.e 76 (.J 0))] [] 7 [.q ((.sc (.I ((([[(.J z)]]:List (List PX.PV)).length:Nat):Int)):PX.PV)=(.J 1))] [] [.au,.nm (.J 1),.au] [0,2,6,7,8,74,75,76] [1,3,4,5,6] hS hE ⟨rfl,trivial⟩ fun a w hS=>?_
 refine wp_block ?_
 refine wp_loop_rounds 2 ?_
 rw [rounds_succ]
 refine PX.G [(.e 77 (.sc (.bool true)))] [] 7 [] [] [.au] [0,2,6,7,8,74,75,76,77] [1,3,4,5,6] hS hE trivial fun a w hS=>?_
 refine wp_seq_k fun K8 hK8=>?_
 refine PX.cond_s true hS (by kernel_rfl) (fun h9=>?_) (fun h9=>nomatch h9)
 refine wp_skip ?_
 refine hK8 _ _ ?_
 refine wp_seq_k fun K10 hK10=>?_
 refine wp_block ?_
 refine PX.G [(.e 9 (.J 0)),(.e 10 (.J z))] [] 7 [.q (0=((0:Nat):Int)),.q (([[(.J z)]]:List (List PX.PV))[0]?=some ([(.J z)]))] [] [.au,.ix 0 ([(.J z)]),.au,.au,.au] [0,2,6,7,8,9,10,74,75,76] [1,3,4,5,6] hS hE ⟨rfl,rfl,trivial⟩ fun a w hS=>?_
 refine PX.G0 [] [(6,.mp (PX.updV ([]) 0 (.I z)))] 7 [] [] [.au,.au,.au,.au,.au,.au,.au] [0,2,6,7,8,74,75,76] [1,3,4,5,6] hS hE trivial fun a w hS=>?_
 refine hK10 _ _ ?_
 refine PX.G0 [(.e 76 (.J 1))] [] 7 [] [] [.au,.au] [0,2,6,7,8,74,75,76] [1,3,4,5,6] hS hE trivial fun a w hS=>?_
 show Code.rounds _ _ _ 1 _ _
 rw [rounds_succ]
 refine PX.G [(.e 77 (.sc (.bool false)))] [] 7 [] [] [.au] [0,2,6,7,8,74,75,76,77] [1,3,4,5,6] hS hE trivial fun a w hS=>?_
 refine wp_seq_k fun K11 hK11=>?_
 refine PX.cond_s false hS (by kernel_rfl) (fun h12=>nomatch h12) (fun h12=>?_)
 refine wp_exit ?_
 refine hK7 _ _ ?_
 refine wp_seq_k fun K13 hK13=>?_
 rw [show (PX.updV ([]) 0 (.I z))=[(0,.I z)] from rfl] at hS
 refine PX.G [(.e 90 (.J 3)),(.e 91 (.J 0))] [] 7 [.q ((.sc (.I (shRc7ce6f.length:Int)):PX.PV)=(.J 3))] [] [.au,.au,.nm (.J 3),.au] [0,2,6,7,8,90,91] [1,3,4,5,6] hS hE ⟨rfl,trivial⟩ fun a w hS=>?_
 refine wp_block ?_
 refine wp_loop_rounds 4 ?_
 rw [rounds_succ]
 refine PX.G [(.e 92 (.sc (.bool true)))] [] 7 [] [] [.au] [0,2,6,7,8,90,91,92] [1,3,4,5,6] hS hE trivial fun a w hS=>?_
 refine wp_seq_k fun K14 hK14=>?_
 refine PX.cond_s true hS (by kernel_rfl) (fun h15=>?_) (fun h15=>nomatch h15)
 refine wp_skip ?_
 refine hK14 _ _ ?_
 refine wp_seq_k fun K16 hK16=>?_
 refine wp_block ?_
 refine PX.G [(.e 11 (.J 0))] [] 7 [] [] [.au,.au] [0,2,6,7,8,11,90,91] [1,3,4,5,6] hS hE trivial fun a w hS=>?_
 refine PX.G [(.e 99 (.sc (.bool false)))] [(1,.box 116 [(.sc (.slice none 0 0)),(.sc (.slice none 0 0)),(.imm 1 ([[(.imm 7 shR2c9698)]])),(.sc (.slice none 0 0)),(.imm 4 shR20c178),(.J 3),(.J 0),(.J 3),(.J 0),(.J 1),(.own 4 1 1),(.sc (.slice none 0 0)),(.J 0),(.sc (.bool false)),(.J 0),(.sc (.slice none 0 0))]),(3,.box 142 [(.J 0),.any,(.map 6),.any,.any,.any,.any,.any,.any,.any,.any]),(4,.row 138 1 false ([[(.ptr 3 0)]])),(6,.mp ([(0,.I z)]))] 7 [.q (PX.Con Try.prog 95 [(.ptr 1 0),(.ptr 3 0),(.agg [(.J 1),(.imm 11 shRc7ce6f),(.J 4),(.J 1),(.J 0),(.imm 1 ([])),(.sc (.I (-1))),(.imm 1 ([])),(.sc (.I (-1))),(.imm 1 ([]))]),(.J 0)] [(1,.box 116 [(.sc (.slice none 0 0)),(.sc (.slice none 0 0)),(.imm 1 ([[(.imm 7 shR2c9698)]])),(.sc (.slice none 0 0)),(.imm 4 shR20c178),(.J 3),(.J 0),(.J 3),(.J 0),(.J 1),(.own 4 1 1),(.sc (.slice none 0 0)),(.J 0),(.sc (.bool false)),(.J 0),(.sc (.slice none 0 0))]),(3,.box 142 [(.J 0),.any,(.map 6),.any,.any,.any,.any,.any,.any,.any,.any]),(6,.mp ([(0,.I z)])),(4,.row 138 1 false ([[(.ptr 3 0)]]))] 7 7 (.sc (.bool true)) [(1,some (.box 116 [(.sc (.slice none 0 0)),(.sc (.slice none 0 0)),(.imm 1 ([[(.imm 7 shR2c9698)]])),(.sc (.slice none 0 0)),(.imm 4 shR20c178),(.J 3),(.J 0),(.J 3),(.J 0),(.J 1),(.own 4 1 1),(.sc (.slice none 0 0)),(.J 0),(.sc (.bool false)),(.J 0),(.sc (.slice none 0 0))])),(3,some (.box 142 [(.J 0),.any,(.map 6),.any,.any,.any,.any,.any,.any,.any,.any])),(6,some (.mp ([(0,.I z)]))),(4,some (.row 138 1 false ([[(.ptr 3 0)]])))])] [] [.au,.au,.au,.au,.cl [1,3,6,4] (.sc (.bool true)) [(1,some (.box 116 [(.sc (.slice none 0 0)),(.sc (.slice none 0 0)),(.imm 1 ([[(.imm 7 shR2c9698)]])),(.sc (.slice none 0 0)),(.imm 4 shR20c178),(.J 3),(.J 0),(.J 3),(.J 0),(.J 1),(.own 4 1 1),(.sc (.slice none 0 0)),(.J 0),(.sc (.bool false)),(.J 0),(.sc (.slice none 0 0))])),(3,some (.box 142 [(.J 0),.any,(.map 6),.any,.any,.any,.any,.any,.any,.any,.any])),(6,some (.mp ([(0,.I z)]))),(4,some (.row 138 1 false ([[(.ptr 3 0)]])))] 7,.au] [0,2,6,7,8,90,91,99] [1,3,4,5,6] hS hE ⟨PX.con_as [(1,1),(3,2),(6,3),(4,4)] [(1,1),(2,3),(3,6),(4,4)] (sh95_0k0 z) (by kernel_rfl) (by kernel_rfl) (by kernel_rfl) (by kernel_rfl) (by kernel_rfl) (by kernel_rfl),trivial⟩ fun a w hS=>?_
 refine PX.cond_s false hS (by kernel_rfl) (fun h17=>nomatch h17) (fun h17=>?_)
 refine wp_skip ?_
 refine hK16 _ _ ?_
 refine PX.G0 [(.e 91 (.J 1))] [] 7 [] [] [.au,.au] [0,2,6,7,8,90,91] [1,3,4,5,6] hS hE trivial fun a w hS=>?_
 show Code.rounds _ _ _ 3 _ _
 rw [rounds_succ]
 refine PX.G [(.e 92 (.sc (.bool true)))] [] 7 [] [] [.au] [0,2,6,7,8,90,91,92] [1,3,4,5,6] hS hE trivial fun a w hS=>?_
 refine wp_seq_k fun K18 hK18=>?_
 refine PX.cond_s true hS (by kernel_rfl) (fun h19=>?_) (fun h19=>nomatch h19)
 refine wp_skip ?_
 refine hK18 _ _ ?_
 refine wp_seq_k fun K20 hK20=>?_
 refine wp_block ?_
 refine PX.G [(.e 11 (.J 1))] [] 7 [] [] [.au,.au] [0,2,6,7,8,11,90,91] [1,3,4,5,6] hS hE trivial fun a w hS=>?_
 refine PX.G [(.e 99 (.sc (.bool false)))] [(1,.box 116 [(.sc (.slice none 0 0)),(.sc (.slice none 0 0)),(.imm 1 ([[(.imm 7 shR2c9698)]])),(.sc (.slice none 0 0)),(.imm 4 shR20c178),(.J 3),(.J 0),(.J 3),(.J 1),(.J 0),(.own 4 1 1),(.imm 1 ([[(.imm 3 shR3542f3)]])),(.J 0),(.sc (.bool false)),(.J 0),(.sc (.slice none 0 0))]),(3,.box 142 [(.J 0),.any,(.map 6),.any,.any,.any,.any,.any,.any,.any,.any]),(4,.row 138 1 false ([[(.ptr 3 0)]])),(6,.mp ([(0,.I z)]))] 7 [.q (PX.Con Try.prog 95 [(.ptr 1 0),(.ptr 3 0),(.agg [(.J 1),(.imm 11 shRc7ce6f),(.J 4),(.J 1),(.J 0),(.imm 1 ([])),(.sc (.I (-1))),(.imm 1 ([])),(.sc (.I (-1))),(.imm 1 ([]))]),(.J 1)] [(1,.box 116 [(.sc (.slice none 0 0)),(.sc (.slice none 0 0)),(.imm 1 ([[(.imm 7 shR2c9698)]])),(.sc (.slice none 0 0)),(.imm 4 shR20c178),(.J 3),(.J 0),(.J 3),(.J 0),(.J 1),(.own 4 1 1),(.sc (.slice none 0 0)),(.J 0),(.sc (.bool false)),(.J 0),(.sc (.slice none 0 0))]),(3,.box 142 [(.J 0),.any,(.map 6),.any,.any,.any,.any,.any,.any,.any,.any]),(6,.mp ([(0,.I z)])),(4,.row 138 1 false ([[(.ptr 3 0)]]))] 7 7 (.sc (.bool true)) [(1,some (.box 116 [(.sc (.slice none 0 0)),(.sc (.slice none 0 0)),(.imm 1 ([[(.imm 7 shR2c9698)]])),(.sc (.slice none 0 0)),(.imm 4 shR20c178),(.J 3),(.J 0),(.J 3),(.J 1),(.J 0),(.own 4 1 1),(.imm 1 ([[(.imm 3 shR3542f3)]])),(.J 0),(.sc (.bool false)),(.J 0),(.sc (.slice none 0 0))])),(3,some (.box 142 [(.J 0),.any,(.map 6),.any,.any,.any,.any,.any,.any,.any,.any])),(6,some (.mp ([(0,.I z)]))),(4,some (.row 138 1 false ([[(.ptr 3 0)]])))])] [] [.au,.au,.au,.au,.cl [1,3,6,4] (.sc (.bool true)) [(1,some (.box 116 [(.sc (.slice none 0 0)),(.sc (.slice none 0 0)),(.imm 1 ([[(.imm 7 shR2c9698)]])),(.sc (.slice none 0 0)),(.imm 4 shR20c178),(.J 3),(.J 0),(.J 3),(.J 1),(.J 0),(.own 4 1 1),(.imm 1 ([[(.imm 3 shR3542f3)]])),(.J 0),(.sc (.bool false)),(.J 0),(.sc (.slice none 0 0))])),(3,some (.box 142 [(.J 0),.any,(.map 6),.any,.any,.any,.any,.any,.any,.any,.any])),(6,some (.mp ([(0,.I z)]))),(4,some (.row 138 1 false ([[(.ptr 3 0)]])))] 7,.au] [0,2,6,7,8,90,91,99] [1,3,4,5,6] hS hE ⟨PX.con_as [(1,1),(3,2),(6,3),(4,4)] [(1,1),(2,3),(3,6),(4,4)] (sh95_0k1 z) (by kernel_rfl) (by kernel_rfl) (by kernel_rfl) (by kernel_rfl) (by kernel_rfl) (by kernel_rfl),trivial⟩ fun a w hS=>?_
 refine PX.cond_s false hS (by kernel_rfl) (fun h21=>nomatch h21) (fun h21=>?_)
 refine wp_skip ?_
 refine hK20 _ _ ?_
 refine PX.G0 [(.e 91 (.J 2))] [] 7 [] [] [.au,.au] [0,2,6,7,8,90,91] [1,3,4,5,6] hS hE trivial fun a w hS=>?_
 show Code.rounds _ _ _ 2 _ _
 rw [rounds_succ]
 refine PX.G [(.e 92 (.sc (.bool true)))] [] 7 [] [] [.au] [0,2,6,7,8,90,91,92] [1,3,4,5,6] hS hE trivial fun a w hS=>?_
 refine wp_seq_k fun K22 hK22=>?_
 refine PX.cond_s true hS (by kernel_rfl) (fun h23=>?_) (fun h23=>nomatch h23)
 refine wp_skip ?_
 refine hK22 _ _ ?_
 refine wp_seq_k fun K24 hK24=>?_
 refine wp_block ?_
 refine PX.G [(.e 11 (.J 2))] [] 7 [] [] [.au,.au] [0,2,6,7,8,11,90,91] [1,3,4,5,6] hS hE trivial fun a w hS=>?_
 refine PX.G [(.e 99 (.sc (.bool false)))] [(1,.box 116 [(.sc (.slice none 0 0)),(.sc (.slice none 0 0)),(.imm 1 ([[(.imm 7 shR2c9698)]])),(.sc (.slice none 0 0)),(.imm 4 shR20c178),(.J 3),(.J 0),(.J 3),(.J 1),(.J 0),(.own 4 1 1),(.imm 1 ([[(.imm 3 shR3542f3)]])),(.J 0),(.sc (.bool false)),(.J 0),(.sc (.slice none 0 0))]),(3,.box 142 [(.J 0),.any,(.map 6),.any,.any,.any,.any,.any,.any,.any,.any]),(4,.row 138 1 false ([[(.ptr 3 0)]])),(6,.mp (PX.updV [(0,.I z)] 1 (.I (IntKind.i64.wrap (z+z)))))] 7 [.q (PX.Con Try.prog 95 [(.ptr 1 0),(.ptr 3 0),(.agg [(.J 1),(.imm 11 shRc7ce6f),(.J 4),(.J 1),(.J 0),(.imm 1 ([])),(.sc (.I (-1))),(.imm 1 ([])),(.sc (.I (-1))),(.imm 1 ([]))]),(.J 2)] [(1,.box 116 [(.sc (.slice none 0 0)),(.sc (.slice none 0 0)),(.imm 1 ([[(.imm 7 shR2c9698)]])),(.sc (.slice none 0 0)),(.imm 4 shR20c178),(.J 3),(.J 0),(.J 3),(.J 1),(.J 0),(.own 4 1 1),(.imm 1 ([[(.imm 3 shR3542f3)]])),(.J 0),(.sc (.bool false)),(.J 0),(.sc (.slice none 0 0))]),(3,.box 142 [(.J 0),.any,(.map 6),.any,.any,.any,.any,.any,.any,.any,.any]),(6,.mp ([(0,.I z)])),(4,.row 138 1 false ([[(.ptr 3 0)]]))] 7 7 (.sc (.bool true)) [(1,some (.box 116 [(.sc (.slice none 0 0)),(.sc (.slice none 0 0)),(.imm 1 ([[(.imm 7 shR2c9698)]])),(.sc (.slice none 0 0)),(.imm 4 shR20c178),(.J 3),(.J 0),(.J 3),(.J 1),(.J 0),(.own 4 1 1),(.imm 1 ([[(.imm 3 shR3542f3)]])),(.J 0),(.sc (.bool false)),(.J 0),(.sc (.slice none 0 0))])),(3,some (.box 142 [(.J 0),.any,(.map 6),.any,.any,.any,.any,.any,.any,.any,.any])),(6,some (.mp (PX.updV [(0,.I z)] 1 (.I (IntKind.i64.wrap (z+z)))))),(4,some (.row 138 1 false ([[(.ptr 3 0)]])))])] [] [.au,.au,.au,.au,.cl [1,3,6,4] (.sc (.bool true)) [(1,some (.box 116 [(.sc (.slice none 0 0)),(.sc (.slice none 0 0)),(.imm 1 ([[(.imm 7 shR2c9698)]])),(.sc (.slice none 0 0)),(.imm 4 shR20c178),(.J 3),(.J 0),(.J 3),(.J 1),(.J 0),(.own 4 1 1),(.imm 1 ([[(.imm 3 shR3542f3)]])),(.J 0),(.sc (.bool false)),(.J 0),(.sc (.slice none 0 0))])),(3,some (.box 142 [(.J 0),.any,(.map 6),.any,.any,.any,.any,.any,.any,.any,.any])),(6,some (.mp (PX.updV [(0,.I z)] 1 (.I (IntKind.i64.wrap (z+z)))))),(4,some (.row 138 1 false ([[(.ptr 3 0)]])))] 7,.au] [0,2,6,7,8,90,91,99] [1,3,4,5,6] hS hE ⟨PX.con_as [(1,1),(3,2),(6,3),(4,4)] [(1,1),(2,3),(3,6),(4,4)] (sh95_0k2 z) (by kernel_rfl) (by kernel_rfl) (by kernel_rfl) (by kernel_rfl) (by kernel_rfl) (by kernel_rfl),trivial⟩ fun a w hS=>?_
 refine PX.cond_s false hS (by kernel_rfl) (fun h25=>nomatch h25) (fun h25=>?_)
 refine wp_skip ?_
 refine hK24 _ _ ?_
 refine PX.G0 [(.e 91 (.J 3))] [] 7 [] [] [.au,.au] [0,2,6,7,8,90,91] [1,3,4,5,6] hS hE trivial fun a w hS=>?_
 show Code.rounds _ _ _ 1 _ _
 rw [rounds_succ]
 refine PX.G [(.e 92 (.sc (.bool false)))] [] 7 [] [] [.au] [0,2,6,7,8,90,91,92] [1,3,4,5,6] hS hE trivial fun a w hS=>?_
 refine wp_seq_k fun K26 hK26=>?_
 refine PX.cond_s false hS (by kernel_rfl) (fun h27=>nomatch h27) (fun h27=>?_)
 refine wp_exit ?_
 refine hK13 _ _ ?_
 refine PX.G [(.e 12 (.ptr 7 0))] [(7,.box 60 [(.J 4),(.J 1),(.J 0),(.imm 1 ([])),(.sc (.I (-1))),(.imm 1 ([])),(.sc (.I (-1))),(.imm 1 ([]))])] 8 [] [] [.au,.au,.au,.au] [0,2,6,7,12] [1,3,4,6,7] hS hE trivial fun a w hS=>?_
 refine PX.G [(.e 104 (.J 4))] [] 8 [] [] [.au,.au] [0,2,6,7,12,104] [1,3,4,6,7] hS hE trivial fun a w hS=>?_
 refine wp_block ?_
 refine wp_seq_k fun K28 hK28=>?_
 refine PX.G [(.e 120 (.sc (.bool false)))] [] 8 [] [] [.au,.au] [0,2,6,7,12,104,120] [1,3,4,6,7] hS hE trivial fun a w hS=>?_
 refine PX.cond_s false hS (by kernel_rfl) (fun h29=>nomatch h29) (fun h29=>?_)
 refine PX.G0 [(.e 120 (.sc (.bool false)))] [] 8 [] [] [.au,.au] [0,2,6,7,12,104,120] [1,3,4,6,7] hS hE trivial fun a w hS=>?_
 refine hK28 _ _ ?_
 refine PX.cond_s false hS (by kernel_rfl) (fun h30=>nomatch h30) (fun h30=>?_)
 refine wp_seq_k fun K31 hK31=>?_
 refine PX.G [(.e 148 (.sc (.bool false)))] [] 8 [] [] [.au,.au] [0,2,6,7,12,104,148] [1,3,4,6,7] hS hE trivial fun a w hS=>?_
 refine PX.cond_s false hS (by kernel_rfl) (fun h32=>nomatch h32) (fun h32=>?_)
 refine PX.G0 [(.e 148 (.sc (.bool false)))] [] 8 [] [] [.au,.au] [0,2,6,7,12,148] [1,3,4,6,7] hS hE trivial fun a w hS=>?_
 refine hK31 _ _ ?_
 refine PX.cond_s false hS (by kernel_rfl) (fun h33=>nomatch h33) (fun h33=>?_)
 refine PX.D0 [(.e 2 (.sc (.slice none 0 0))),(.e 6 (.sc (.I (-1))))] [(1,.box 116 [(.sc (.slice none 0 0)),(.sc (.slice none 0 0)),(.imm 1 ([[(.imm 7 shR2c9698)]])),(.sc (.slice none 0 0)),(.imm 4 shR20c178),(.J 3),(.J 0),(.J 3),(.J 1),(.J 0),.any,(.imm 1 ([[(.imm 3 shR3542f3)]])),(.J 0),(.sc (.bool false)),(.sc (.I (IntKind.i64.wrap (z+z)))),(.sc (.slice none 0 0))])] 8 [.q ((.sc ((PX.findV (PX.updV [(0,.I z)] 1 (.I (IntKind.i64.wrap (z+z)))) 1).getD (.I 0)):PX.PV)=(.sc (.I (IntKind.i64.wrap (z+z))))),.q (PX.Con Try.prog 97 [(.ptr 1 0),(.sc (.I (IntKind.i64.wrap (z+z)))),(.sc (.bool false))] [(1,.box 116 [(.sc (.slice none 0 0)),(.sc (.slice none 0 0)),(.imm 1 ([[(.imm 7 shR2c9698)]])),(.sc (.slice none 0 0)),(.imm 4 shR20c178),(.J 3),(.J 0),(.J 3),(.J 1),(.J 0),(.own 4 1 1),(.imm 1 ([[(.imm 3 shR3542f3)]])),(.J 0),(.sc (.bool false)),(.J 0),(.sc (.slice none 0 0))]),(3,.box 142 [(.J 0),.any,(.map 6),.any,.any,.any,.any,.any,.any,.any,.any]),(6,.mp (PX.updV [(0,.I z)] 1 (.I (IntKind.i64.wrap (z+z))))),(4,.row 138 1 false ([[(.ptr 3 0)]]))] 8 8 (.tup [(.sc (.I (-1))),(.sc (.slice none 0 0))]) [(1,some (.box 116 [(.sc (.slice none 0 0)),(.sc (.slice none 0 0)),(.imm 1 ([[(.imm 7 shR2c9698)]])),(.sc (.slice none 0 0)),(.imm 4 shR20c178),(.J 3),(.J 0),(.J 3),(.J 1),(.J 0),.any,(.imm 1 ([[(.imm 3 shR3542f3)]])),(.J 0),(.sc (.bool false)),(.sc (.I (IntKind.i64.wrap (z+z)))),(.sc (.slice none 0 0))])),(3,none),(6,none),(4,none)])] [] [.au,.au,.au,.au,.au,.au,.au,.nm (.sc (.I (IntKind.i64.wrap (z+z)))),.au,.au,.au,.cl [1,3,6,4] (.tup [(.sc (.I (-1))),(.sc (.slice none 0 0))]) [(1,some (.box 116 [(.sc (.slice none 0 0)),(.sc (.slice none 0 0)),(.imm 1 ([[(.imm 7 shR2c9698)]])),(.sc (.slice none 0 0)),(.imm 4 shR20c178),(.J 3),(.J 0),(.J 3),(.J 1),(.J 0),.any,(.imm 1 ([[(.imm 3 shR3542f3)]])),(.J 0),(.sc (.bool false)),(.sc (.I (IntKind.i64.wrap (z+z)))),(.sc (.slice none 0 0))])),(3,none),(6,none),(4,none)] 8,.au,.au,.au,.au,.au] [0,2,6] [1] hS mixed hE ⟨rfl,PX.con_as [(1,1),(3,2),(6,3),(4,4)] [(1,1),(2,3),(3,6),(4,4)] (sh97_0 z) (by kernel_rfl) (by kernel_rfl) (by kernel_rfl) (by kernel_rfl) (by kernel_rfl) (by kernel_rfl),trivial⟩ fun a w hS=>?_
 show Code.rounds _ _ _ 1 _ _
 rw [rounds_succ]
 refine wp_seq_k fun K34 hK34=>?_
 refine PX.G [(.e 20 (.sc (.bool false)))] [] 8 [] [] [.au,.au] [0,2,6,20] [1] hS hE trivial fun a w hS=>?_
 refine PX.cond_s false hS (by kernel_rfl) (fun h35=>nomatch h35) (fun h35=>?_)
 refine wp_exit ?_
 replace hS:=PX.recell (id:=1) (j:=8) .any hS rfl rfl rfl (PX.any_of rfl)
 replace hS:=PX.recell (id:=1) (j:=9) .any hS rfl rfl rfl (PX.any_of rfl)
 try simp only [Exit.then,Exit.inBlock,Nat.reduceEqDiff,↓reduceIte]
 exact PX.ret_s hS hE (by kernel_rfl) (by kernel_rfl) (by kernel_rfl) (by first | exact .inl rfl | exact .inr rfl)

set_option maxHeartbeats 1000000 in
theorem sh60_0 (z:Int):PX.Con Try.prog 60 [(.agg [(.imm 4 shR20c178)])] [] 1 100000 (.J 0) []:=by
 refine PX.con_intro [(.agg [(.imm 4 shR20c178)])] 103 Try.func60 rfl rfl (by kernel_rfl) (by kernel_rfl) ?_
 intro E a hE hS
 generalize E.w0=w at hS ⊢
 have mix:=mixed
 refine PX.G [(.e 1 (.ptr 1 0))] [(1,.box 51 [(.imm 4 shR20c178)])] 2 [] [] [.au,.au] [1] [1] hS hE trivial fun a w hS=>?_
 refine wp_seq_k fun K1 hK1=>?_
 refine PX.G [(.e 16 (.sc (.bool false)))] [] 2 [.q ((.sc (.I (shR20c178.length:Int)):PX.PV)=(.J 1))] [] [.au,.au,.nm (.J 1),.au] [1,16] [1] hS hE ⟨rfl,trivial⟩ fun a w hS=>?_
 refine PX.cond_s false hS (by kernel_rfl) (fun h2=>nomatch h2) (fun h2=>?_)
 refine wp_skip ?_
 refine hK1 _ _ ?_
 refine wp_seq_k fun K3 hK3=>?_
 refine PX.G [(.e 18 (.imm 4 shR20c178)),(.e 19 (.J 1)),(.e 20 (.J 0))] [] 2 [.q ((.sc (.I (shR20c178.length:Int)):PX.PV)=(.J 1))] [] [.au,.au,.nm (.J 1),.au] [1,18,19,20] [1] hS hE ⟨rfl,trivial⟩ fun a w hS=>?_
 refine wp_block ?_
 refine wp_loop_rounds 2 ?_
 rw [rounds_succ]
 refine PX.G [(.e 21 (.sc (.bool true)))] [] 2 [] [] [.au] [1,18,19,20,21] [1] hS hE trivial fun a w hS=>?_
 refine wp_seq_k fun K4 hK4=>?_
 refine PX.cond_s true hS (by kernel_rfl) (fun h5=>?_) (fun h5=>nomatch h5)
 refine wp_skip ?_
 refine hK4 _ _ ?_
 refine wp_seq_k fun K6 hK6=>?_
 refine wp_block ?_
 refine PX.G [(.e 4 (.ptr 2 0))] [(2,.box 26 [(.J 1),(.imm 10 shR912a32),(.imm 3 shR8cf714),(.imm 3 ([]))])] 3 [.q (0=((0:Nat):Int)),.q (shR20c178[0]?=some ([(.J 1),(.imm 10 shR912a32),(.imm 3 shR8cf714),(.imm 3 ([]))]))] [] [.ix 0 ([(.J 1),(.imm 10 shR912a32),(.imm 3 shR8cf714),(.imm 3 ([]))]),.au,.au,.au] [1,4,18,19,20] [1,2] hS hE ⟨rfl,rfl,trivial⟩ fun a w hS=>?_
 refine PX.G [(.e 5 (.sc (.I (R.check shC0 (totW shC0.blocks)))))] [] 3 [.q (PX.Con Try.prog 18 [(.agg [(.J 1),(.imm 10 shR912a32),(.imm 3 shR8cf714),(.imm 3 ([]))])] [] 3 3 (.sc (.I (R.check shC0 (totW shC0.blocks)))) [])] [] [.au,.cl [] (.sc (.I (R.check shC0 (totW shC0.blocks)))) [] 3,.au] [1,5,18,19,20] [1] hS hE ⟨con_rcheck codeI_sh0,trivial⟩ fun a w hS=>?_
 replace hS:=PX.sl [1,5,18,19,20] (PX.reslot (t:=5) (.sc (.I 0)) hS rfl (fun _ _ _ _ h=>(show PX.PV.sc (.I (R.check shC0 (totW shC0.blocks)))=.sc (.I 0) from by rw [show R.check shC0 (totW shC0.blocks)=0 from by kernel_rfl]) ▸ h))
 refine PX.G [(.e 27 (.sc (.bool false)))] [] 3 [] [] [.au,.au] [1,5,18,19,20,27] [1] hS hE trivial fun a w hS=>?_
 refine PX.cond_s false hS (by kernel_rfl) (fun h7=>nomatch h7) (fun h7=>?_)
 refine wp_skip ?_
 refine hK6 _ _ ?_
 refine PX.G0 [(.e 20 (.J 1))] [] 3 [] [] [.au,.au] [1,18,19,20] [1] hS hE trivial fun a w hS=>?_
 show Code.rounds _ _ _ 1 _ _
 rw [rounds_succ]
 refine PX.G [(.e 21 (.sc (.bool false)))] [] 3 [] [] [.au] [1,18,19,20,21] [1] hS hE trivial fun a w hS=>?_
 refine wp_seq_k fun K8 hK8=>?_
 refine PX.cond_s false hS (by kernel_rfl) (fun h9=>nomatch h9) (fun h9=>?_)
 refine wp_exit ?_
 refine hK3 _ _ ?_
 refine wp_seq_k fun K10 hK10=>?_
 refine PX.G [(.e 31 (.imm 4 shR20c178)),(.e 32 (.J 1)),(.e 33 (.J 0))] [] 3 [.q ((.sc (.I (shR20c178.length:Int)):PX.PV)=(.J 1))] [] [.au,.au,.nm (.J 1),.au] [1,31,32,33] [1] hS hE ⟨rfl,trivial⟩ fun a w hS=>?_
 refine wp_block ?_
 refine wp_loop_rounds 2 ?_
 rw [rounds_succ]
 refine PX.G [(.e 34 (.sc (.bool true)))] [] 3 [] [] [.au] [1,31,32,33,34] [1] hS hE trivial fun a w hS=>?_
 refine wp_seq_k fun K11 hK11=>?_
 refine PX.cond_s true hS (by kernel_rfl) (fun h12=>?_) (fun h12=>nomatch h12)
 refine wp_skip ?_
 refine hK11 _ _ ?_
 refine wp_seq_k fun K13 hK13=>?_
 refine wp_block ?_
 refine PX.G [(.e 6 (.J 0)),(.e 7 (.ptr 3 0))] [(3,.box 26 [(.J 1),(.imm 10 shR912a32),(.imm 3 shR8cf714),(.imm 3 ([]))])] 4 [.q (0=((0:Nat):Int)),.q (shR20c178[0]?=some ([(.J 1),(.imm 10 shR912a32),(.imm 3 shR8cf714),(.imm 3 ([]))]))] [] [.au,.ix 0 ([(.J 1),(.imm 10 shR912a32),(.imm 3 shR8cf714),(.imm 3 ([]))]),.au,.au,.au,.au] [1,6,7,31,32,33] [1,3] hS hE ⟨rfl,rfl,trivial⟩ fun a w hS=>?_
 refine wp_seq_k fun K14 hK14=>?_
 refine PX.G [(.e 39 (.imm 3 shR8cf714)),(.e 40 (.J 1)),(.e 41 (.J 0))] [] 4 [.q ((.sc (.I (shR8cf714.length:Int)):PX.PV)=(.J 1))] [] [.au,.au,.nm (.J 1),.au] [1,6,7,31,32,33,39,40,41] [1,3] hS hE ⟨rfl,trivial⟩ fun a w hS=>?_
 refine wp_block ?_
 refine wp_loop_rounds 2 ?_
 rw [rounds_succ]
 refine PX.G [(.e 42 (.sc (.bool true)))] [] 4 [] [] [.au] [1,6,7,31,32,33,39,40,41,42] [1,3] hS hE trivial fun a w hS=>?_
 refine wp_seq_k fun K15 hK15=>?_
 refine PX.cond_s true hS (by kernel_rfl) (fun h16=>?_) (fun h16=>nomatch h16)
 refine wp_skip ?_
 refine hK15 _ _ ?_
 refine wp_seq_k fun K17 hK17=>?_
 refine wp_block ?_
 refine PX.G [(.e 8 (.J 0)),(.e 9 (.ptr 4 0))] [(4,.box 99 [(.sc (.I (-1))),(.sc (.I (-1))),(.J 0)])] 5 [.q (0=((0:Nat):Int)),.q (shR8cf714[0]?=some ([(.sc (.I (-1))),(.sc (.I (-1))),(.J 0)]))] [] [.au,.ix 0 ([(.sc (.I (-1))),(.sc (.I (-1))),(.J 0)]),.au,.au,.au,.au] [1,6,7,8,9,31,32,33,39,40,41] [1,3,4] hS hE ⟨rfl,rfl,trivial⟩ fun a w hS=>?_
 refine PX.G [(.e 53 (.J 0)),(.e 54 (.sc (.bool true))),(.e 55 (.sc (.bool true))),(.e 56 (.ptr 4 2)),(.e 57 (.J 0)),(.e 58 (.J 0)),(.e 59 (.sc (.bool false))),(.e 60 (.sc (.bool false))),(.e 61 (.sc (.bool false)))] [] 5 [.q ((.sc (.I (shR20c178.length:Int)):PX.PV)=(.J 1))] [] [.au,.au,.au,.au,.nm (.J 1),.au,.au,.au,.au,.au,.au,.au,.au,.au,.au,.au] [1,6,7,31,32,33,39,40,41,53,54,55,56,57,58,59,60,61] [1,3,4] hS hE ⟨rfl,trivial⟩ fun a w hS=>?_
 refine PX.cond_s false hS (by kernel_rfl) (fun h18=>nomatch h18) (fun h18=>?_)
 refine wp_skip ?_
 refine hK17 _ _ ?_
 refine PX.G0 [(.e 41 (.J 1))] [] 5 [] [] [.au,.au] [1,6,7,31,32,33,39,40,41,53,54,55,56,57,58,59,60] [1,3,4] hS hE trivial fun a w hS=>?_
 show Code.rounds _ _ _ 1 _ _
 rw [rounds_succ]
 refine PX.G [(.e 42 (.sc (.bool false)))] [] 5 [] [] [.au] [1,6,7,31,32,33,39,40,41,42,53,54,55,56,57,58,59,60] [1,3,4] hS hE trivial fun a w hS=>?_
 refine wp_seq_k fun K19 hK19=>?_
 refine PX.cond_s false hS (by kernel_rfl) (fun h20=>nomatch h20) (fun h20=>?_)
 refine wp_exit ?_
 refine hK14 _ _ ?_
 refine PX.G [(.e 64 (.imm 10 shR912a32)),(.e 65 (.J 1)),(.e 66 (.J 0))] [] 5 [.q ((.sc (.I (shR912a32.length:Int)):PX.PV)=(.J 1))] [] [.au,.au,.nm (.J 1),.au] [1,31,32,33,53,54,55,56,57,58,59,60,64,65,66] [1,4] hS hE ⟨rfl,trivial⟩ fun a w hS=>?_
 refine wp_block ?_
 refine wp_loop_rounds 2 ?_
 rw [rounds_succ]
 refine PX.G [(.e 67 (.sc (.bool true)))] [] 5 [] [] [.au] [1,31,32,33,53,54,55,56,57,58,59,60,64,65,66,67] [1,4] hS hE trivial fun a w hS=>?_
 refine wp_seq_k fun K21 hK21=>?_
 refine PX.cond_s true hS (by kernel_rfl) (fun h22=>?_) (fun h22=>nomatch h22)
 refine wp_skip ?_
 refine hK21 _ _ ?_
 refine wp_seq_k fun K23 hK23=>?_
 refine wp_block ?_
 refine PX.G [(.e 11 (.ptr 5 0))] [(5,.box 62 [(.J 1),(.imm 11 shRc7ce6f),(.J 4),(.J 1),(.J 0),(.imm 1 ([])),(.sc (.I (-1))),(.imm 1 ([])),(.sc (.I (-1))),(.imm 1 ([]))])] 6 [.q (0=((0:Nat):Int)),.q (shR912a32[0]?=some ([(.J 1),(.imm 11 shRc7ce6f),(.J 4),(.J 1),(.J 0),(.imm 1 ([])),(.sc (.I (-1))),(.imm 1 ([])),(.sc (.I (-1))),(.imm 1 ([]))]))] [] [.ix 0 ([(.J 1),(.imm 11 shRc7ce6f),(.J 4),(.J 1),(.J 0),(.imm 1 ([])),(.sc (.I (-1))),(.imm 1 ([])),(.sc (.I (-1))),(.imm 1 ([]))]),.au,.au,.au] [1,11,31,32,33,53,54,55,56,57,58,59,60,64,65,66] [1,4,5] hS hE ⟨rfl,rfl,trivial⟩ fun a w hS=>?_
 refine PX.G [(.e 12 (.ptr 6 0))] [(6,.box 60 [(.J 4),(.J 1),(.J 0),(.imm 1 ([])),(.sc (.I (-1))),(.imm 1 ([])),(.sc (.I (-1))),(.imm 1 ([]))])] 7 [] [] [.au,.au,.au,.au] [1,12,31,32,33,53,54,55,56,57,58,59,60,64,65,66] [1,4,6] hS hE trivial fun a w hS=>?_
 refine PX.D [(.e 76 (.ptr 6 0)),(.e 77 (.J 4)),(.e 78 (.sc (.bool false))),(.e 100 (.sc (.bool false)))] [] 7 [.q (SX.pv [(8,false)] [(8,true)]=true→PX.AllOb [.q ((.sc (.I ((([]:List (List PX.PV)).length:Nat):Int)):PX.PV)=(.J 0))]),.q (SX.pv [(8,false)] [(8,true)]=true→PX.AllOb [.q (0=((0:Nat):Int)),.q (shR20c178[0]?=some ([(.J 1),(.imm 10 shR912a32),(.imm 3 shR8cf714),(.imm 3 ([]))]))])] [(8,false)] [.au,.au,.au,.au,.au,.au,.au,.au,.au,.dd,.dd,.dd,.dd,.dd,.dd,.dd,.au,.au,.nm (.J 0),.au,.au,.au,.au,.ix 0 ([(.J 1),(.imm 10 shR912a32),(.imm 3 shR8cf714),(.imm 3 ([]))]),.au,.au,.au,.dd,.au] [1,31,32,33,53,54,55,56,57,58,59,60,64,65,66,76,77,78,100] [1,4,6] hS mixed hE ⟨fun hg=>⟨rfl,trivial⟩,fun hg=>⟨rfl,rfl,trivial⟩,trivial⟩ fun a w hS=>?_
 refine PX.cond_s false hS (by kernel_rfl) (fun h24=>nomatch h24) (fun h24=>?_)
 refine wp_skip ?_
 refine hK23 _ _ ?_
 refine PX.G0 [(.e 66 (.J 1))] [] 7 [] [] [.au,.au] [1,31,32,33,53,54,55,56,57,58,59,60,64,65,66,76,77,78] [1,4,6] hS hE trivial fun a w hS=>?_
 show Code.rounds _ _ _ 1 _ _
 rw [rounds_succ]
 refine PX.G [(.e 67 (.sc (.bool false)))] [] 7 [] [] [.au] [1,31,32,33,53,54,55,56,57,58,59,60,64,65,66,67,76,77,78] [1,4,6] hS hE trivial fun a w hS=>?_
 refine wp_seq_k fun K25 hK25=>?_
 refine PX.cond_s false hS (by kernel_rfl) (fun h26=>nomatch h26) (fun h26=>?_)
 refine wp_exit ?_
 refine hK13 _ _ ?_
 refine PX.G0 [(.e 33 (.J 1))] [] 7 [] [] [.au,.au] [1,31,32,33,53,54,55,56,57,58,59,60,76,77,78] [1,4,6] hS hE trivial fun a w hS=>?_
 show Code.rounds _ _ _ 1 _ _
 rw [rounds_succ]
 refine PX.G [(.e 34 (.sc (.bool false)))] [] 7 [] [] [.au] [1,31,32,33,34,53,54,55,56,57,58,59,60,76,77,78] [1,4,6] hS hE trivial fun a w hS=>?_
 refine wp_seq_k fun K27 hK27=>?_
 refine PX.cond_s false hS (by kernel_rfl) (fun h28=>nomatch h28) (fun h28=>?_)
 refine wp_exit ?_
 refine hK10 _ _ ?_
 refine PX.G [(.e 2 (.J 0))] [] 7 [] [] [.au] [2] [] hS hE trivial fun a w hS=>?_
 refine wp_ret ?_
 try simp only [Exit.then,Exit.inBlock,Nat.reduceEqDiff,↓reduceIte]
 exact PX.ret_s hS hE (by kernel_rfl) (by kernel_rfl) (by kernel_rfl) (.inl rfl)

set_option maxHeartbeats 1000000 in
theorem sh20_0 (z:Int):PX.Con Try.prog 20 [(.agg [(.sc (.slice none 0 0)),(.sc (.slice none 0 0)),(.imm 1 ([[(.imm 7 shR2c9698)]])),(.sc (.slice none 0 0))]),(.agg [(.imm 4 shR20c178)]),(.J 0),(.imm 1 ([[(.J z)]])),(.J 3),(.J 0),(.J 3)] [] 1 100000 (.tup [(.imm 1 ([[(.imm 3 shR3542f3)]])),(.agg [(.J 0),(.sc (.bool false)),(.sc (.I (IntKind.i64.wrap (z+z)))),(.sc (.slice none 0 0))])]) []:=by
 refine PX.con_intro [(.agg [(.sc (.slice none 0 0)),(.sc (.slice none 0 0)),(.imm 1 ([[(.imm 7 shR2c9698)]])),(.sc (.slice none 0 0))]),(.agg [(.imm 4 shR20c178)]),(.J 0),(.imm 1 ([[(.J z)]])),(.J 3),(.J 0),(.J 3)] 86 Try.func20 rfl rfl (by kernel_rfl) (by kernel_rfl) ?_
 intro E a hE hS
 generalize E.w0=w at hS ⊢
 have mix:=mixed
 refine PX.G [(.e 7 (.ptr 1 0)),(.e 8 (.ptr 2 0)),(.e 15 (.ptr 3 0))] [(1,.box 47 [(.sc (.slice none 0 0)),(.sc (.slice none 0 0)),(.imm 1 ([[(.imm 7 shR2c9698)]])),(.sc (.slice none 0 0))]),(2,.box 51 [(.imm 4 shR20c178)]),(3,.box 37 [(.J 0),(.sc (.bool false)),(.J 0),(.sc (.slice none 0 0))])] 4 [] [] [.au,.au,.au,.au] [2,3,4,5,6,7,8,15] [1,2,3] hS hE trivial fun a w hS=>?_
 refine PX.G [(.e 16 (.J 0))] [] 4 [.q (PX.Con Try.prog 60 [(.agg [(.imm 4 shR20c178)])] [] 4 4 (.J 0) [])] [] [.au,.cl [] (.J 0) [] 4,.au] [2,3,4,5,6,7,8,15,16] [1,2,3] hS hE ⟨PX.con_any (sh60_0 z),trivial⟩ fun a w hS=>?_
 refine wp_seq_k fun K1 hK1=>?_
 refine PX.G [(.e 21 (.sc (.bool false)))] [] 4 [] [] [.au,.au] [2,3,4,5,6,7,8,15,16,21] [1,2,3] hS hE trivial fun a w hS=>?_
 refine PX.cond_s false hS (by kernel_rfl) (fun h2=>nomatch h2) (fun h2=>?_)
 refine wp_skip ?_
 refine hK1 _ _ ?_
 refine wp_seq_k fun K3 hK3=>?_
 refine PX.G [(.e 63 (.sc (.bool false)))] [] 4 [.q ((.sc (.I (shR20c178.length:Int)):PX.PV)=(.J 1)),.q ((.sc (.I ((([[(.J z)]]:List (List PX.PV)).length:Nat):Int)):PX.PV)=(.J 1)),.q (0=((0:Nat):Int)),.q (shR20c178[0]?=some ([(.J 1),(.imm 10 shR912a32),(.imm 3 shR8cf714),(.imm 3 ([]))]))] [] [.au,.au,.au,.au,.au,.au,.nm (.J 1),.au,.au,.au,.au,.nm (.J 1),.au,.au,.au,.ix 0 ([(.J 1),(.imm 10 shR912a32),(.imm 3 shR8cf714),(.imm 3 ([]))]),.au,.au,.au,.au,.au,.au,.au,.au,.au,.au,.au,.au,.au,.au,.au,.au,.au,.au,.au,.au,.au,.au,.au,.au] [2,3,4,5,6,7,8,15,63] [1,2,3] hS hE ⟨rfl,rfl,rfl,rfl,trivial⟩ fun a w hS=>?_
 refine PX.cond_s false hS (by kernel_rfl) (fun h4=>nomatch h4) (fun h4=>?_)
 refine wp_skip ?_
 refine hK3 _ _ ?_
 refine PX.G [(.e 17 (.ptr 4 0))] [(4,.box 116 [(.sc (.slice none 0 0)),(.sc (.slice none 0 0)),(.imm 1 ([[(.imm 7 shR2c9698)]])),(.sc (.slice none 0 0)),(.imm 4 shR20c178),(.J 3),(.J 0),(.J 3),(.J 0),(.J 0),(.sc (.slice none 0 0)),(.sc (.slice none 0 0)),(.J 0),(.sc (.bool false)),(.J 0),(.sc (.slice none 0 0))])] 5 [] [] [.au,.au,.au,.au,.au,.au,.au,.au] [2,3,15,17] [3,4] hS hE trivial fun a w hS=>?_
 refine PX.G [] [(4,.box 116 [(.sc (.slice none 0 0)),(.sc (.slice none 0 0)),(.imm 1 ([[(.imm 7 shR2c9698)]])),(.sc (.slice none 0 0)),(.imm 4 shR20c178),(.J 3),(.J 0),(.J 3),.any,.any,.any,(.imm 1 ([[(.imm 3 shR3542f3)]])),(.J 0),(.sc (.bool false)),(.sc (.I (IntKind.i64.wrap (z+z)))),(.sc (.slice none 0 0))])] 7 [.b (lenIs 0 ([])),.b true,.b (Nat.ble (0+([[(.J z)]]:List (List PX.PV)).length) 1000000000),.q (PX.Con Try.prog 61 [(.ptr 4 0),(.J 0),(.own 6 1 (0+([[(.J z)]]:List (List PX.PV)).length))] [(4,.box 116 [(.sc (.slice none 0 0)),(.sc (.slice none 0 0)),(.imm 1 ([[(.imm 7 shR2c9698)]])),(.sc (.slice none 0 0)),(.imm 4 shR20c178),(.J 3),(.J 0),(.J 3),(.J 0),(.J 0),(.sc (.slice none 0 0)),(.sc (.slice none 0 0)),(.J 0),(.sc (.bool false)),(.J 0),(.sc (.slice none 0 0))]),(6,.row 3 1 true ([[(.J z)]]))] 7 7 (.tup []) [(4,some (.box 116 [(.sc (.slice none 0 0)),(.sc (.slice none 0 0)),(.imm 1 ([[(.imm 7 shR2c9698)]])),(.sc (.slice none 0 0)),(.imm 4 shR20c178),(.J 3),(.J 0),(.J 3),.any,.any,.any,(.imm 1 ([[(.imm 3 shR3542f3)]])),(.J 0),(.sc (.bool false)),(.sc (.I (IntKind.i64.wrap (z+z)))),(.sc (.slice none 0 0))])),(6,none)])] [] [.au,.au,.au,.au,.au,.cl [4,6] (.tup []) [(4,some (.box 116 [(.sc (.slice none 0 0)),(.sc (.slice none 0 0)),(.imm 1 ([[(.imm 7 shR2c9698)]])),(.sc (.slice none 0 0)),(.imm 4 shR20c178),(.J 3),(.J 0),(.J 3),.any,.any,.any,(.imm 1 ([[(.imm 3 shR3542f3)]])),(.J 0),(.sc (.bool false)),(.sc (.I (IntKind.i64.wrap (z+z)))),(.sc (.slice none 0 0))])),(6,none)] 7] [15,17] [3,4] hS hE ⟨rfl,rfl,rfl,PX.con_as [(4,1),(6,2)] [(1,4),(2,6)] (sh61_0 z) (by kernel_rfl) (by kernel_rfl) (by kernel_rfl) (by kernel_rfl) (by kernel_rfl) (by kernel_rfl),trivial⟩ fun a w hS=>?_
 refine PX.D [(.e 14 (.imm 1 ([[(.imm 3 shR3542f3)]])))] [(3,.box 37 [(.J 0),(.sc (.bool false)),(.sc (.I (IntKind.i64.wrap (z+z)))),(.sc (.slice none 0 0))])] 7 [] [] [.au,.au,.au,.au,.au,.au,.au,.au,.au,.au] [14,15] [3] hS mixed hE trivial fun a w hS=>?_
 refine wp_ret ?_
 try simp only [Exit.then,Exit.inBlock,Nat.reduceEqDiff,↓reduceIte]
 exact PX.ret_s hS hE (by kernel_rfl) (by kernel_rfl) (by kernel_rfl) (.inl rfl)

set_option maxHeartbeats 400000 in
theorem sh131_1 (z:Int):PX.Con Try.prog 131 [(.ptr 1 0)] [(1,.box 116 [(.sc (.slice none 0 0)),(.sc (.slice none 0 0)),(.imm 1 ([[(.imm 7 shR2c9698)]])),(.sc (.slice none 0 0)),(.imm 4 shR0c7572),(.J 3),(.J 0),(.J 3),(.J 0),(.J 1),(.own 4 1 1),(.sc (.slice none 0 0)),(.J 0),(.sc (.bool false)),(.J 0),(.imm 1 (shR79a67e z))]),(2,.box 142 [(.J 0),.any,(.map 3),.any,(.J 0),(.J 3),(.imm 11 shR439b68),.any,.any,.any,.any]),(3,.mp (PX.updV [(0,.I z)] 1 (.I (IntKind.i64.wrap (z+z))))),(4,.row 138 1 false ([[(.ptr 2 0)]]))] 5 100000 (.sc (.bool true)) [(1,some (.box 116 [(.sc (.slice none 0 0)),(.sc (.slice none 0 0)),(.imm 1 ([[(.imm 7 shR2c9698)]])),(.sc (.slice none 0 0)),(.imm 4 shR0c7572),(.J 3),(.J 0),(.J 3),(.J 1),(.J 0),(.own 4 1 1),(.imm 1 ([[(.imm 3 (shRe55e87 z))]])),(.J 0),(.sc (.bool false)),(.J 0),(.imm 1 (shR79a67e z))])),(2,some (.box 142 [(.J 0),.any,(.map 3),.any,(.J 0),(.J 3),(.imm 11 shR439b68),.any,.any,.any,.any])),(3,some (.mp (PX.updV [(0,.I z)] 1 (.I (IntKind.i64.wrap (z+z)))))),(4,some (.row 138 1 false ([[(.ptr 2 0)]])))]:=by
 refine PX.con_intro [(.ptr 1 0)] 83 Try.func131 rfl rfl (by kernel_rfl) (by kernel_rfl) ?_
 intro E a hE hS
 generalize E.w0=w at hS ⊢
 have mix:=mixed
 refine PX.G [] [] 5 [] [] [.au] [0] [1,2,3,4] hS hE trivial fun a w hS=>?_
 refine wp_seq_k fun K1 hK1=>?_
 refine PX.D [(.e 13 (.sc (.bool false)))] [] 5 [] [] [.au,.au,.au,.au,.au,.au,.au,.au,.au] [0,13] [1,2,3,4] hS mixed hE trivial fun a w hS=>?_
 refine PX.cond_s false hS (by kernel_rfl) (fun h2=>nomatch h2) (fun h2=>?_)
 refine wp_skip ?_
 refine hK1 _ _ ?_
 refine wp_seq_k fun K3 hK3=>?_
 refine PX.D [(.e 38 (.sc (.bool true)))] [] 5 [] [] [.au,.au,.au,.au,.au,.au,.au,.au,.au,.au,.au,.au,.au,.au,.au,.au,.au,.au,.au,.au,.au] [0,38] [1,2,3,4] hS mixed hE trivial fun a w hS=>?_
 refine PX.cond_s true hS (by kernel_rfl) (fun h4=>?_) (fun h4=>nomatch h4)
 refine PX.G [(.e 3 (.ptr 5 0))] [(5,.box 88 [(.sc (.slice none 0 0))])] 6 [] [] [.au,.au,.au] [0,3] [1,2,3,4,5] hS hE trivial fun a w hS=>?_
 refine wp_seq_k fun K5 hK5=>?_
 refine PX.G [(.e 4 (.J 0))] [] 6 [.q ((.sc (.I ((1:Nat):Int)):PX.PV)=(.J 1))] [] [.au,.au,.au,.au,.nm (.J 1),.au,.au] [0,3,4] [1,2,3,4,5] hS hE ⟨rfl,trivial⟩ fun a w hS=>?_
 refine wp_block ?_
 refine wp_loop_rounds 2 ?_
 rw [rounds_succ]
 refine wp_seq_k fun K6 hK6=>?_
 refine PX.G [(.e 47 (.sc (.bool true)))] [] 6 [] [] [.au,.au] [0,3,4,47] [1,2,3,4,5] hS hE trivial fun a w hS=>?_
 refine PX.cond_s true hS (by kernel_rfl) (fun h7=>?_) (fun h7=>nomatch h7)
 refine wp_skip ?_
 refine hK6 _ _ ?_
 refine wp_seq_k fun K8 hK8=>?_
 refine wp_block ?_
 refine PX.D0 [] [(1,.box 116 [(.sc (.slice none 0 0)),(.sc (.slice none 0 0)),(.imm 1 ([[(.imm 7 shR2c9698)]])),(.sc (.slice none 0 0)),(.imm 4 shR0c7572),(.J 3),(.J 0),(.J 3),(.J 0),(.J 1),(.own 4 1 1),(.sc (.slice none 0 0)),(.J 0),(.sc (.bool false)),(.J 0),(.imm 1 (shR79a67e z))]),(2,.box 142 [(.J 0),.any,(.map 3),.any,(.J 0),(.J 3),(.imm 11 shR439b68),.any,.any,.any,.any]),(3,.mp (PX.updV [(0,.I z)] 1 (.I (IntKind.i64.wrap (z+z))))),(4,.row 138 1 false ([[(.ptr 2 0)]])),(5,.box 88 [(.own 6 3 (0+(shRe55e87 z).length))]),(6,.row 91 3 true (shRe55e87 z))] 7 [.q (0=((0:Nat):Int)),.q (0<1),.q (PX.Con Try.prog 158 [(.ptr 1 0),(.ptr 2 0)] [(1,.box 116 [(.sc (.slice none 0 0)),(.sc (.slice none 0 0)),(.imm 1 ([[(.imm 7 shR2c9698)]])),(.sc (.slice none 0 0)),(.imm 4 shR0c7572),(.J 3),(.J 0),(.J 3),(.J 0),(.J 1),(.own 4 1 1),(.sc (.slice none 0 0)),(.J 0),(.sc (.bool false)),(.J 0),(.imm 1 (shR79a67e z))]),(2,.box 142 [(.J 0),.any,(.map 3),.any,(.J 0),(.J 3),(.imm 11 shR439b68),.any,.any,.any,.any]),(3,.mp (PX.updV [(0,.I z)] 1 (.I (IntKind.i64.wrap (z+z))))),(4,.row 138 1 false ([[(.ptr 2 0)]]))] 6 6 (.imm 3 (shRe55e87 z)) [(1,some (.box 116 [(.sc (.slice none 0 0)),(.sc (.slice none 0 0)),(.imm 1 ([[(.imm 7 shR2c9698)]])),(.sc (.slice none 0 0)),(.imm 4 shR0c7572),(.J 3),(.J 0),(.J 3),(.J 0),(.J 1),(.own 4 1 1),(.sc (.slice none 0 0)),(.J 0),(.sc (.bool false)),(.J 0),(.imm 1 (shR79a67e z))])),(2,some (.box 142 [(.J 0),.any,(.map 3),.any,(.J 0),(.J 3),(.imm 11 shR439b68),.any,.any,.any,.any])),(3,some (.mp (PX.updV [(0,.I z)] 1 (.I (IntKind.i64.wrap (z+z)))))),(4,some (.row 138 1 false ([[(.ptr 2 0)]])))]),.b true,.b true,.b (Nat.ble (0+(shRe55e87 z).length) 1000000000)] [] [.au,.au,.au,.au,.au,.au,.au,.au,.ix 0 [],.au,.cl [1,2,3,4] (.imm 3 (shRe55e87 z)) [(1,some (.box 116 [(.sc (.slice none 0 0)),(.sc (.slice none 0 0)),(.imm 1 ([[(.imm 7 shR2c9698)]])),(.sc (.slice none 0 0)),(.imm 4 shR0c7572),(.J 3),(.J 0),(.J 3),(.J 0),(.J 1),(.own 4 1 1),(.sc (.slice none 0 0)),(.J 0),(.sc (.bool false)),(.J 0),(.imm 1 (shR79a67e z))])),(2,some (.box 142 [(.J 0),.any,(.map 3),.any,(.J 0),(.J 3),(.imm 11 shR439b68),.any,.any,.any,.any])),(3,some (.mp (PX.updV [(0,.I z)] 1 (.I (IntKind.i64.wrap (z+z)))))),(4,some (.row 138 1 false ([[(.ptr 2 0)]])))] 6,.au,.au,.au] [0,3,4] [1,2,3,4,5,6] hS mixed hE ⟨by omega,by decide,PX.con_as [(1,1),(2,2),(3,3),(4,4)] [(1,1),(2,2),(3,3),(4,4)] (sh158_1 z) (by kernel_rfl) (by kernel_rfl) (by kernel_rfl) (by kernel_rfl) (by kernel_rfl) (by kernel_rfl),rfl,rfl,rfl,trivial⟩ fun a w hS=>?_
 refine hK8 _ _ ?_
 refine PX.G0 [(.e 4 (.sc (.I (-1))))] [] 7 [] [] [.au,.au,.au] [0,3,4] [1,2,3,4,5,6] hS hE trivial fun a w hS=>?_
 show Code.rounds _ _ _ 1 _ _
 rw [rounds_succ]
 refine wp_seq_k fun K9 hK9=>?_
 refine PX.G [(.e 47 (.sc (.bool false)))] [] 7 [] [] [.au,.au] [0,3,4,47] [1,2,3,4,5,6] hS hE trivial fun a w hS=>?_
 refine PX.cond_s false hS (by kernel_rfl) (fun h10=>nomatch h10) (fun h10=>?_)
 refine wp_exit ?_
 refine hK5 _ _ ?_
 replace hS:=PX.fz 6 [] [(5,.box 88 [(.imm 3 (shRe55e87 z))])] [0,3,4,47] [1,2,3,4,5] [.b (PX.lenIs (0+(shRe55e87 z).length) (shRe55e87 z))] hS ⟨(rfl),trivial⟩
 refine PX.D0 [] [(1,.box 116 [(.sc (.slice none 0 0)),(.sc (.slice none 0 0)),(.imm 1 ([[(.imm 7 shR2c9698)]])),(.sc (.slice none 0 0)),(.imm 4 shR0c7572),(.J 3),(.J 0),(.J 3),(.J 0),(.J 1),(.own 4 1 1),(.own 8 1 1),(.J 0),(.sc (.bool false)),(.J 0),(.imm 1 (shR79a67e z))]),(8,.row 88 1 true ([[(.imm 3 (shRe55e87 z))]]))] 9 [.b true,.b (lenIs 1 ([[(.imm 3 (shRe55e87 z))]])),.b (Nat.ble (1) 1000000000)] [] [.au,.au,.au,.au,.au,.au,.au,.au,.au,.au,.au] [0] [1,2,3,4,8] hS mixed hE ⟨rfl,rfl,rfl,trivial⟩ fun a w hS=>?_
 refine hK3 _ _ ?_
 refine PX.G [] [(1,.box 116 [(.sc (.slice none 0 0)),(.sc (.slice none 0 0)),(.imm 1 ([[(.imm 7 shR2c9698)]])),(.sc (.slice none 0 0)),(.imm 4 shR0c7572),(.J 3),(.J 0),(.J 3),(.J 1),(.J 1),(.own 4 1 1),(.own 8 1 1),(.J 0),(.sc (.bool false)),(.J 0),(.imm 1 (shR79a67e z))])] 9 [] [] [.au,.au,.au,.au,.au,.au,.au,.au] [0] [1,2,3,4,8] hS hE trivial fun a w hS=>?_
 refine PX.G [] [(1,.box 116 [(.sc (.slice none 0 0)),(.sc (.slice none 0 0)),(.imm 1 ([[(.imm 7 shR2c9698)]])),(.sc (.slice none 0 0)),(.imm 4 shR0c7572),(.J 3),(.J 0),(.J 3),(.J 1),(.J 0),(.own 4 1 1),(.own 8 1 1),(.J 0),(.sc (.bool false)),(.J 0),(.imm 1 (shR79a67e z))])] 9 [] [] [.au,.au,.au,.au] [] [1,2,3,4,8] hS hE trivial fun a w hS=>?_
 refine PX.G [(.e 2 (.sc (.bool true)))] [] 9 [] [] [.au] [2] [1,2,3,4,8] hS hE trivial fun a w hS=>?_
 refine wp_ret ?_
 try simp only [Exit.then,Exit.inBlock,Nat.reduceEqDiff,↓reduceIte]
 replace hS:=PX.fz 8 [] [(1,.box 116 [(.sc (.slice none 0 0)),(.sc (.slice none 0 0)),(.imm 1 ([[(.imm 7 shR2c9698)]])),(.sc (.slice none 0 0)),(.imm 4 shR0c7572),(.J 3),(.J 0),(.J 3),(.J 1),(.J 0),(.own 4 1 1),(.imm 1 ([[(.imm 3 (shRe55e87 z))]])),(.J 0),(.sc (.bool false)),(.J 0),(.imm 1 (shR79a67e z))])] [2] [1,2,3,4] [.b (PX.lenIs 1 ([[(.imm 3 (shRe55e87 z))]]))] hS ⟨(rfl),trivial⟩
 exact PX.ret_s hS hE (by kernel_rfl) (by kernel_rfl) (by kernel_rfl) (.inl rfl)

set_option maxHeartbeats 400000 in
theorem sh132_1 (z:Int):PX.Con Try.prog 132 [(.imm 11 shR906903)] [] 1 100000 (.imm 11 shR439b68) []:=by
 refine PX.con_intro [(.imm 11 shR906903)] 65 Try.func132 rfl rfl (by kernel_rfl) (by kernel_rfl) ?_
 intro E a hE hS
 generalize E.w0=w at hS ⊢
 have mix:=mixed
 refine PX.G [] [] 1 [] [] [.au] [0] [] hS hE trivial fun a w hS=>?_
 refine PX.G [(.e 3 (.sc (.slice none 0 0)))] [] 1 [] [] [.au] [0,3] [] hS hE trivial fun a w hS=>?_
 refine wp_seq_k fun K1 hK1=>?_
 refine PX.G [(.e 9 (.imm 11 shR906903)),(.e 10 (.J 3)),(.e 11 (.J 0))] [] 1 [.q ((.sc (.I (shR906903.length:Int)):PX.PV)=(.J 3))] [] [.au,.nm (.J 3),.au] [3,9,10,11] [] hS hE ⟨rfl,trivial⟩ fun a w hS=>?_
 refine wp_block ?_
 refine wp_loop_rounds 4 ?_
 rw [rounds_succ]
 refine PX.G [(.e 12 (.sc (.bool true)))] [] 1 [] [] [.au] [3,9,10,11,12] [] hS hE trivial fun a w hS=>?_
 refine wp_seq_k fun K2 hK2=>?_
 refine PX.cond_s true hS (by kernel_rfl) (fun h3=>?_) (fun h3=>nomatch h3)
 refine wp_skip ?_
 refine hK2 _ _ ?_
 refine wp_seq_k fun K4 hK4=>?_
 refine wp_block ?_
 refine PX.G [(.e 5 (.ptr 1 0))] [(1,.box 74 [(.J 21),(.J 0),(.J 0),(.J 0),(.J 0),(.J 0),(.J 0),(.J 0),(.J 2),(.J 1),(.J 0)])] 2 [.q (0=((0:Nat):Int)),.q (shR906903[0]?=some ([(.J 21),(.J 0),(.J 0),(.J 0),(.J 0),(.J 0),(.J 0),(.J 0),(.J 2),(.J 1),(.J 0)]))] [] [.ix 0 ([(.J 21),(.J 0),(.J 0),(.J 0),(.J 0),(.J 0),(.J 0),(.J 0),(.J 2),(.J 1),(.J 0)]),.au,.au,.au] [3,5,9,10,11] [1] hS hE ⟨rfl,rfl,trivial⟩ fun a w hS=>?_
 refine wp_seq_k fun K5 hK5=>?_
 refine PX.G [(.e 17 (.sc (.bool false)))] [] 2 [] [] [.au,.au,.au] [3,5,9,10,11,17] [1] hS hE trivial fun a w hS=>?_
 refine PX.cond_s false hS (by kernel_rfl) (fun h6=>nomatch h6) (fun h6=>?_)
 refine wp_skip ?_
 refine hK5 _ _ ?_
 refine PX.G [(.e 6 (.J 0))] [] 2 [] [] [.au] [3,5,6,9,10,11] [1] hS hE trivial fun a w hS=>?_
 refine wp_seq_k fun K7 hK7=>?_
 refine wp_block ?_
 refine wp_loop_rounds 1 ?_
 rw [rounds_succ]
 refine wp_seq_k fun K8 hK8=>?_
 refine PX.D [(.e 29 (.sc (.bool false)))] [] 2 [] [(4,false)] [.au,.au,.au,.au,.au,.dd,.dd,.dd,.dd,.dd,.dd,.au] [3,5,6,9,10,11,29] [1] hS mixed hE trivial fun a w hS=>?_
 refine PX.cond_s false hS (by kernel_rfl) (fun h9=>nomatch h9) (fun h9=>?_)
 refine wp_exit ?_
 refine hK7 _ _ ?_
 refine PX.D [(.e 7 (.sc (.bool false)))] [] 2 [] [(4,false)] [.au,.au,.au,.au,.au,.dd,.dd,.dd,.dd,.dd,.dd,.dd,.au,.au] [3,5,6,7,9,10,11] [1] hS mixed hE trivial fun a w hS=>?_
 refine PX.G [(.e 8 (.sc (.slice none 0 0)))] [] 2 [] [] [.au,.au,.au,.au] [3,5,6,7,8,9,10,11] [1] hS hE trivial fun a w hS=>?_
 refine wp_seq_k fun K10 hK10=>?_
 refine PX.G [(.e 48 (.sc (.bool false)))] [] 2 [] [] [.au] [3,5,6,8,9,10,11,48] [1] hS hE trivial fun a w hS=>?_
 refine PX.cond_s false hS (by kernel_rfl) (fun h11=>nomatch h11) (fun h11=>?_)
 refine wp_skip ?_
 refine hK10 _ _ ?_
 refine PX.D0 [(.e 3 (.own 6 11 1))] [(6,.row 74 11 true ([[(.J 21),(.J 0),(.J 0),(.J 0),(.J 0),(.J 0),(.J 0),(.J 0),(.J 2),(.J 1),(.J 0)]]))] 7 [.b (lenIs 0 ([])),.b true,.b (Nat.ble (0) 1000000000),.b (lenIs 0 ([])),.b (lenIs 1 ([[(.J 21),(.J 0),(.J 0),(.J 0),(.J 0),(.J 0),(.J 0),(.J 0),(.J 2),(.J 1),(.J 0)]])),.b (Nat.ble (1) 1000000000),.b (lenIs 1 ([[(.J 21),(.J 0),(.J 0),(.J 0),(.J 0),(.J 0),(.J 0),(.J 0),(.J 2),(.J 1),(.J 0)]])),.b true,.b (Nat.ble (1) 1000000000)] [] [.au,.au,.au,.au,.au,.au,.au,.au,.au,.au,.au] [3,9,10,11] [6] hS mixed hE ⟨rfl,rfl,rfl,rfl,rfl,rfl,rfl,rfl,rfl,trivial⟩ fun a w hS=>?_
 refine hK4 _ _ ?_
 refine PX.G0 [(.e 11 (.J 1))] [] 7 [] [] [.au,.au] [3,9,10,11] [6] hS hE trivial fun a w hS=>?_
 show Code.rounds _ _ _ 3 _ _
 rw [rounds_succ]
 refine PX.G [(.e 12 (.sc (.bool true)))] [] 7 [] [] [.au] [3,9,10,11,12] [6] hS hE trivial fun a w hS=>?_
 refine wp_seq_k fun K12 hK12=>?_
 refine PX.cond_s true hS (by kernel_rfl) (fun h13=>?_) (fun h13=>nomatch h13)
 refine wp_skip ?_
 refine hK12 _ _ ?_
 refine wp_seq_k fun K14 hK14=>?_
 refine wp_block ?_
 refine PX.G [(.e 5 (.ptr 7 0))] [(7,.box 74 [(.J 3),(.J 1),(.J 0),(.J 0),(.J 0),(.J 0),(.J 0),(.J 0),(.J 0),(.J 0),(.J 0)])] 8 [.q (1=((1:Nat):Int)),.q (shR906903[1]?=some ([(.J 3),(.J 1),(.J 0),(.J 0),(.J 0),(.J 0),(.J 0),(.J 0),(.J 0),(.J 0),(.J 0)]))] [] [.ix 1 ([(.J 3),(.J 1),(.J 0),(.J 0),(.J 0),(.J 0),(.J 0),(.J 0),(.J 0),(.J 0),(.J 0)]),.au,.au,.au] [3,5,9,10,11] [6,7] hS hE ⟨rfl,rfl,trivial⟩ fun a w hS=>?_
 refine wp_seq_k fun K15 hK15=>?_
 refine PX.G [(.e 17 (.sc (.bool true)))] [] 8 [] [] [.au,.au,.au] [3,5,9,10,11,17] [6,7] hS hE trivial fun a w hS=>?_
 refine PX.cond_s true hS (by kernel_rfl) (fun h16=>?_) (fun h16=>nomatch h16)
 refine wp_exit ?_
 refine hK14 _ _ ?_
 refine PX.G0 [(.e 11 (.J 2))] [] 8 [] [] [.au,.au] [3,9,10,11] [6] hS hE trivial fun a w hS=>?_
 show Code.rounds _ _ _ 2 _ _
 rw [rounds_succ]
 refine PX.G [(.e 12 (.sc (.bool true)))] [] 8 [] [] [.au] [3,9,10,11,12] [6] hS hE trivial fun a w hS=>?_
 refine wp_seq_k fun K17 hK17=>?_
 refine PX.cond_s true hS (by kernel_rfl) (fun h18=>?_) (fun h18=>nomatch h18)
 refine wp_skip ?_
 refine hK17 _ _ ?_
 refine wp_seq_k fun K19 hK19=>?_
 refine wp_block ?_
 refine PX.G [(.e 5 (.ptr 8 0))] [(8,.box 74 [(.J 18),(.J 0),(.J 1),(.J 0),(.J 0),(.J 0),(.J 0),(.J 0),(.J 0),(.J 0),(.J 0)])] 9 [.q (2=((2:Nat):Int)),.q (shR906903[2]?=some ([(.J 18),(.J 0),(.J 1),(.J 0),(.J 0),(.J 0),(.J 0),(.J 0),(.J 0),(.J 0),(.J 0)]))] [] [.ix 2 ([(.J 18),(.J 0),(.J 1),(.J 0),(.J 0),(.J 0),(.J 0),(.J 0),(.J 0),(.J 0),(.J 0)]),.au,.au,.au] [3,5,9,10,11] [6,8] hS hE ⟨rfl,rfl,trivial⟩ fun a w hS=>?_
 refine wp_seq_k fun K20 hK20=>?_
 refine PX.G [(.e 17 (.sc (.bool true)))] [] 9 [] [] [.au,.au,.au] [3,5,9,10,11,17] [6,8] hS hE trivial fun a w hS=>?_
 refine PX.cond_s true hS (by kernel_rfl) (fun h21=>?_) (fun h21=>nomatch h21)
 refine wp_exit ?_
 refine hK19 _ _ ?_
 refine PX.G0 [(.e 11 (.J 3))] [] 9 [] [] [.au,.au] [3,9,10,11] [6] hS hE trivial fun a w hS=>?_
 show Code.rounds _ _ _ 1 _ _
 rw [rounds_succ]
 refine PX.G [(.e 12 (.sc (.bool false)))] [] 9 [] [] [.au] [3,9,10,11,12] [6] hS hE trivial fun a w hS=>?_
 refine wp_seq_k fun K22 hK22=>?_
 refine PX.cond_s false hS (by kernel_rfl) (fun h23=>nomatch h23) (fun h23=>?_)
 refine wp_exit ?_
 refine hK1 _ _ ?_
 refine PX.G [(.e 2 (.own 6 11 1))] [] 9 [] [] [.au,.au] [2] [6] hS hE trivial fun a w hS=>?_
 refine wp_ret ?_
 try simp only [Exit.then,Exit.inBlock,Nat.reduceEqDiff,↓reduceIte]
 replace hS:=PX.fz 6 [(.e 2 (.imm 11 ([[(.J 21),(.J 0),(.J 0),(.J 0),(.J 0),(.J 0),(.J 0),(.J 0),(.J 2),(.J 1),(.J 0)]])))] [] [2] [] [.b (PX.lenIs 1 ([[(.J 21),(.J 0),(.J 0),(.J 0),(.J 0),(.J 0),(.J 0),(.J 0),(.J 2),(.J 1),(.J 0)]]))] hS ⟨(rfl),trivial⟩
 exact PX.ret_s hS hE (by kernel_rfl) (by kernel_rfl) (by kernel_rfl) (.inl rfl)

set_option maxHeartbeats 400000 in
theorem sh133_1 (z:Int):PX.Con Try.prog 133 [(.J 0),(.J z),(.J z)] [] 1 100000 (.sc (.I (IntKind.i64.wrap (z+z)))) []:=by
 refine PX.con_intro [(.J 0),(.J z),(.J z)] 76 Try.func133 rfl rfl (by kernel_rfl) (by kernel_rfl) ?_
 intro E a hE hS
 generalize E.w0=w at hS ⊢
 have mix:=mixed
 refine PX.G [] [] 1 [] [] [.au] [0,1,2] [] hS hE trivial fun a w hS=>?_
 refine PX.G [(.e 7 (.sc (.bool false)))] [] 1 [] [] [.au] [0,1,2,7] [] hS hE trivial fun a w hS=>?_
 refine wp_seq_k fun K1 hK1=>?_
 refine PX.G [(.e 9 (.J 6))] [] 1 [] [] [.au,.au] [1,2,7,9] [] hS hE trivial fun a w hS=>?_
 refine wp_block ?_
 refine PX.G [(.e 10 (.sc (.bool true)))] [] 1 [] [] [.au,.au] [1,2,7,9,10] [] hS hE trivial fun a w hS=>?_
 refine PX.cond_s true hS (by kernel_rfl) (fun h2=>?_) (fun h2=>nomatch h2)
 refine PX.G [(.e 6 (.sc (.I (IntKind.i64.wrap (z+z)))))] [] 1 [] [] [.au,.au,.au,.au] [6] [] hS hE trivial fun a w hS=>?_
 refine wp_ret ?_
 try simp only [Exit.then,Exit.inBlock,Nat.reduceEqDiff,↓reduceIte]
 exact PX.ret_s hS hE (by kernel_rfl) (by kernel_rfl) (by kernel_rfl) (.inl rfl)

set_option maxHeartbeats 1000000 in
theorem sh95_1k0 (z:Int):PX.Con Try.prog 95 [(.ptr 1 0),(.ptr 2 0),(.agg [(.J 1),(.imm 11 shRf3bb33),(.J 4),(.J 1),(.J 0),(.imm 1 ([])),(.sc (.I (-1))),(.imm 1 ([])),(.sc (.I (-1))),(.imm 1 ([]))]),(.J 0)] [(1,.box 116 [(.sc (.slice none 0 0)),(.sc (.slice none 0 0)),(.imm 1 ([[(.imm 7 shR2c9698)]])),(.sc (.slice none 0 0)),(.imm 4 shR0c7572),(.J 3),(.J 0),(.J 3),(.J 0),(.J 1),(.own 4 1 1),(.sc (.slice none 0 0)),(.J 0),(.sc (.bool false)),(.J 0),(.sc (.slice none 0 0))]),(2,.box 142 [(.J 0),.any,(.map 3),.any,.any,.any,.any,.any,.any,.any,.any]),(3,.mp ([(0,.I z)])),(4,.row 138 1 false ([[(.ptr 2 0)]]))] 5 100000 (.sc (.bool true)) [(1,some (.box 116 [(.sc (.slice none 0 0)),(.sc (.slice none 0 0)),(.imm 1 ([[(.imm 7 shR2c9698)]])),(.sc (.slice none 0 0)),(.imm 4 shR0c7572),(.J 3),(.J 0),(.J 3),(.J 0),(.J 1),(.own 4 1 1),(.sc (.slice none 0 0)),(.J 0),(.sc (.bool false)),(.J 0),(.sc (.slice none 0 0))])),(2,some (.box 142 [(.J 0),.any,(.map 3),.any,.any,.any,.any,.any,.any,.any,.any])),(3,some (.mp ([(0,.I z)]))),(4,some (.row 138 1 false ([[(.ptr 2 0)]])))]:=by
 refine PX.con_intro [(.ptr 1 0),(.ptr 2 0),(.agg [(.J 1),(.imm 11 shRf3bb33),(.J 4),(.J 1),(.J 0),(.imm 1 ([])),(.sc (.I (-1))),(.imm 1 ([])),(.sc (.I (-1))),(.imm 1 ([]))]),(.J 0)] 211 Try.func95 rfl rfl (by kernel_rfl) (by kernel_rfl) ?_
 intro E a hE hS
 generalize E.w0=w at hS ⊢
 have mix:=mixed
 refine PX.G [(.e 6 (.ptr 5 0))] [(5,.box 62 [(.J 1),(.imm 11 shRf3bb33),(.J 4),(.J 1),(.J 0),(.imm 1 ([])),(.sc (.I (-1))),(.imm 1 ([])),(.sc (.I (-1))),(.imm 1 ([]))])] 6 [] [] [.au,.au] [0,1,3,6] [1,2,3,4,5] hS hE trivial fun a w hS=>?_
 refine PX.G [(.e 9 (.ptr 6 0))] [(6,.box 74 [(.J 21),(.J 0),(.J 0),(.J 0),(.J 0),(.J 0),(.J 0),(.J 0),(.J 2),(.J 1),(.J 0)])] 7 [.q (0=((0:Nat):Int)),.q (shRf3bb33[0]?=some ([(.J 21),(.J 0),(.J 0),(.J 0),(.J 0),(.J 0),(.J 0),(.J 0),(.J 2),(.J 1),(.J 0)]))] [] [.au,.au,.au,.ix 0 ([(.J 21),(.J 0),(.J 0),(.J 0),(.J 0),(.J 0),(.J 0),(.J 0),(.J 2),(.J 1),(.J 0)]),.au,.au,.au] [0,1,3,6,9] [1,2,3,4,5,6] hS hE ⟨rfl,rfl,trivial⟩ fun a w hS=>?_
 refine PX.D [(.e 10 (.J z)),(.e 11 (.J z))] [] 7 [.q ((.sc ((PX.findV ([(0,.I z)]) 0).getD (.I 0)):PX.PV)=(.J z)),.q ((.sc ((PX.findV ([(0,.I z)]) 0).getD (.I 0)):PX.PV)=(.J z))] [] [.au,.au,.au,.au,.au,.au,.nm (.J z),.au,.au,.au,.au,.au,.au,.nm (.J z),.au,.au] [0,1,3,6,9,10,11] [1,2,3,4,5,6] hS mixed hE ⟨rfl,rfl,trivial⟩ fun a w hS=>?_
 refine wp_seq_k fun K1 hK1=>?_
 refine PX.G [(.e 32 (.J 21))] [] 7 [] [] [.au,.au] [0,1,3,6,9,10,11,32] [1,2,3,4,5,6] hS hE trivial fun a w hS=>?_
 refine wp_block ?_
 refine PX.G [(.e 45 (.sc (.bool false)))] [] 7 [] [] [.au,.au] [0,1,3,6,9,10,11,32,45] [1,2,3,4,5,6] hS hE trivial fun a w hS=>?_
 refine PX.cond_s false hS (by kernel_rfl) (fun h2=>nomatch h2) (fun h2=>?_)
 refine PX.G [(.e 55 (.sc (.bool false)))] [] 7 [] [] [.au,.au] [0,1,3,6,9,10,11,32,55] [1,2,3,4,5,6] hS hE trivial fun a w hS=>?_
 refine PX.cond_s false hS (by kernel_rfl) (fun h3=>nomatch h3) (fun h3=>?_)
 refine PX.G [(.e 64 (.sc (.bool false)))] [] 7 [] [] [.au,.au] [0,1,3,6,9,10,11,32,64] [1,2,3,4,5,6] hS hE trivial fun a w hS=>?_
 refine PX.cond_s false hS (by kernel_rfl) (fun h4=>nomatch h4) (fun h4=>?_)
 refine PX.G [(.e 104 (.sc (.bool false)))] [] 7 [] [] [.au,.au] [0,1,3,6,9,10,11,32,104] [1,2,3,4,5,6] hS hE trivial fun a w hS=>?_
 refine PX.cond_s false hS (by kernel_rfl) (fun h5=>nomatch h5) (fun h5=>?_)
 refine PX.G [(.e 132 (.sc (.bool false)))] [] 7 [] [] [.au,.au] [0,1,3,6,9,10,11,32,132] [1,2,3,4,5,6] hS hE trivial fun a w hS=>?_
 refine PX.cond_s false hS (by kernel_rfl) (fun h6=>nomatch h6) (fun h6=>?_)
 refine PX.G [(.e 151 (.sc (.bool false)))] [] 7 [] [] [.au,.au] [0,1,3,6,9,10,11,32,151] [1,2,3,4,5,6] hS hE trivial fun a w hS=>?_
 refine PX.cond_s false hS (by kernel_rfl) (fun h7=>nomatch h7) (fun h7=>?_)
 refine wp_seq_k fun K8 hK8=>?_
 refine PX.G [(.e 165 (.sc (.bool false)))] [] 7 [] [] [.au,.au] [0,1,3,6,9,10,11,32,165] [1,2,3,4,5,6] hS hE trivial fun a w hS=>?_
 refine PX.cond_s false hS (by kernel_rfl) (fun h9=>nomatch h9) (fun h9=>?_)
 refine PX.G0 [(.e 165 (.sc (.bool false)))] [] 7 [] [] [.au,.au] [0,1,3,6,9,10,11,32,165] [1,2,3,4,5,6] hS hE trivial fun a w hS=>?_
 refine hK8 _ _ ?_
 refine PX.cond_s false hS (by kernel_rfl) (fun h10=>nomatch h10) (fun h10=>?_)
 refine PX.G [(.e 209 (.sc (.bool true)))] [] 7 [] [] [.au,.au] [1,9,10,11,209] [1,2,3,4,6] hS hE trivial fun a w hS=>?_
 refine PX.cond_s true hS (by kernel_rfl) (fun h11=>?_) (fun h11=>nomatch h11)
 refine wp_skip ?_
 refine hK1 _ _ ?_
 refine PX.G [(.e 8 (.sc (.bool true)))] [] 7 [] [] [.au] [8] [1,2,3,4] hS hE trivial fun a w hS=>?_
 refine wp_ret ?_
 try simp only [Exit.then,Exit.inBlock,Nat.reduceEqDiff,↓reduceIte]
 exact PX.ret_s hS hE (by kernel_rfl) (by kernel_rfl) (by kernel_rfl) (.inl rfl)

set_option maxHeartbeats 1000000 in
theorem sh95_1k1 (z:Int):PX.Con Try.prog 95 [(.ptr 1 0),(.ptr 2 0),(.agg [(.J 1),(.imm 11 shRf3bb33),(.J 4),(.J 1),(.J 0),(.imm 1 ([])),(.sc (.I (-1))),(.imm 1 ([])),(.sc (.I (-1))),(.imm 1 ([]))]),(.J 1)] [(1,.box 116 [(.sc (.slice none 0 0)),(.sc (.slice none 0 0)),(.imm 1 ([[(.imm 7 shR2c9698)]])),(.sc (.slice none 0 0)),(.imm 4 shR0c7572),(.J 3),(.J 0),(.J 3),(.J 0),(.J 1),(.own 4 1 1),(.sc (.slice none 0 0)),(.J 0),(.sc (.bool false)),(.J 0),(.sc (.slice none 0 0))]),(2,.box 142 [(.J 0),.any,(.map 3),.any,.any,.any,.any,.any,.any,.any,.any]),(3,.mp ([(0,.I z)])),(4,.row 138 1 false ([[(.ptr 2 0)]]))] 5 100000 (.sc (.bool true)) [(1,some (.box 116 [(.sc (.slice none 0 0)),(.sc (.slice none 0 0)),(.imm 1 ([[(.imm 7 shR2c9698)]])),(.sc (.slice none 0 0)),(.imm 4 shR0c7572),(.J 3),(.J 0),(.J 3),(.J 0),(.J 1),(.own 4 1 1),(.sc (.slice none 0 0)),(.J 0),(.sc (.bool false)),(.J 0),(.sc (.slice none 0 0))])),(2,some (.box 142 [(.J 0),.any,(.map 3),.any,.any,.any,.any,.any,.any,.any,.any])),(3,some (.mp (PX.updV [(0,.I z)] 1 (.I (IntKind.i64.wrap (z+z)))))),(4,some (.row 138 1 false ([[(.ptr 2 0)]])))]:=by
 refine PX.con_intro [(.ptr 1 0),(.ptr 2 0),(.agg [(.J 1),(.imm 11 shRf3bb33),(.J 4),(.J 1),(.J 0),(.imm 1 ([])),(.sc (.I (-1))),(.imm 1 ([])),(.sc (.I (-1))),(.imm 1 ([]))]),(.J 1)] 211 Try.func95 rfl rfl (by kernel_rfl) (by kernel_rfl) ?_
 intro E a hE hS
 generalize E.w0=w at hS ⊢
 have mix:=mixed
 refine PX.G [(.e 6 (.ptr 5 0))] [(5,.box 62 [(.J 1),(.imm 11 shRf3bb33),(.J 4),(.J 1),(.J 0),(.imm 1 ([])),(.sc (.I (-1))),(.imm 1 ([])),(.sc (.I (-1))),(.imm 1 ([]))])] 6 [] [] [.au,.au] [0,1,3,6] [1,2,3,4,5] hS hE trivial fun a w hS=>?_
 refine PX.G [(.e 9 (.ptr 6 0))] [(6,.box 74 [(.J 3),(.J 1),(.J 0),(.J 0),(.J 0),(.J 0),(.J 0),(.J 0),(.J 0),(.J 0),(.J 0)])] 7 [.q (1=((1:Nat):Int)),.q (shRf3bb33[1]?=some ([(.J 3),(.J 1),(.J 0),(.J 0),(.J 0),(.J 0),(.J 0),(.J 0),(.J 0),(.J 0),(.J 0)]))] [] [.au,.au,.au,.ix 1 ([(.J 3),(.J 1),(.J 0),(.J 0),(.J 0),(.J 0),(.J 0),(.J 0),(.J 0),(.J 0),(.J 0)]),.au,.au,.au] [0,1,3,6,9] [1,2,3,4,5,6] hS hE ⟨rfl,rfl,trivial⟩ fun a w hS=>?_
 refine PX.D [(.e 10 (.J z)),(.e 11 (.J z))] [] 7 [.q ((.sc ((PX.findV ([(0,.I z)]) 0).getD (.I 0)):PX.PV)=(.J z)),.q ((.sc ((PX.findV ([(0,.I z)]) 0).getD (.I 0)):PX.PV)=(.J z))] [] [.au,.au,.au,.au,.au,.au,.nm (.J z),.au,.au,.au,.au,.au,.au,.nm (.J z),.au,.au] [0,1,3,6,9,10,11] [1,2,3,4,5,6] hS mixed hE ⟨rfl,rfl,trivial⟩ fun a w hS=>?_
 refine wp_seq_k fun K1 hK1=>?_
 refine PX.G [(.e 32 (.J 3))] [] 7 [] [] [.au,.au] [0,1,3,6,9,10,11,32] [1,2,3,4,5,6] hS hE trivial fun a w hS=>?_
 refine wp_block ?_
 refine PX.G [(.e 45 (.sc (.bool false)))] [] 7 [] [] [.au,.au] [0,1,3,6,9,10,11,32,45] [1,2,3,4,5,6] hS hE trivial fun a w hS=>?_
 refine PX.cond_s false hS (by kernel_rfl) (fun h2=>nomatch h2) (fun h2=>?_)
 refine PX.G [(.e 55 (.sc (.bool false)))] [] 7 [] [] [.au,.au] [0,1,3,6,9,10,11,32,55] [1,2,3,4,5,6] hS hE trivial fun a w hS=>?_
 refine PX.cond_s false hS (by kernel_rfl) (fun h3=>nomatch h3) (fun h3=>?_)
 refine PX.G [(.e 64 (.sc (.bool false)))] [] 7 [] [] [.au,.au] [0,1,3,6,9,10,11,32,64] [1,2,3,4,5,6] hS hE trivial fun a w hS=>?_
 refine PX.cond_s false hS (by kernel_rfl) (fun h4=>nomatch h4) (fun h4=>?_)
 refine PX.G [(.e 104 (.sc (.bool false)))] [] 7 [] [] [.au,.au] [0,1,3,6,9,10,11,32,104] [1,2,3,4,5,6] hS hE trivial fun a w hS=>?_
 refine PX.cond_s false hS (by kernel_rfl) (fun h5=>nomatch h5) (fun h5=>?_)
 refine PX.G [(.e 132 (.sc (.bool false)))] [] 7 [] [] [.au,.au] [0,1,3,6,9,10,11,32,132] [1,2,3,4,5,6] hS hE trivial fun a w hS=>?_
 refine PX.cond_s false hS (by kernel_rfl) (fun h6=>nomatch h6) (fun h6=>?_)
 refine PX.G [(.e 151 (.sc (.bool false)))] [] 7 [] [] [.au,.au] [0,1,3,6,9,10,11,32,151] [1,2,3,4,5,6] hS hE trivial fun a w hS=>?_
 refine PX.cond_s false hS (by kernel_rfl) (fun h7=>nomatch h7) (fun h7=>?_)
 refine wp_seq_k fun K8 hK8=>?_
 refine PX.G [(.e 165 (.sc (.bool false)))] [] 7 [] [] [.au,.au] [0,1,3,6,9,10,11,32,165] [1,2,3,4,5,6] hS hE trivial fun a w hS=>?_
 refine PX.cond_s false hS (by kernel_rfl) (fun h9=>nomatch h9) (fun h9=>?_)
 refine PX.G0 [(.e 165 (.sc (.bool false)))] [] 7 [] [] [.au,.au] [0,1,3,6,9,10,11,32,165] [1,2,3,4,5,6] hS hE trivial fun a w hS=>?_
 refine hK8 _ _ ?_
 refine PX.cond_s false hS (by kernel_rfl) (fun h10=>nomatch h10) (fun h10=>?_)
 refine PX.G [(.e 209 (.sc (.bool false)))] [] 7 [] [] [.au,.au] [1,9,10,11,209] [1,2,3,4,6] hS hE trivial fun a w hS=>?_
 refine PX.cond_s false hS (by kernel_rfl) (fun h11=>nomatch h11) (fun h11=>?_)
 refine PX.D0 [] [(3,.mp (PX.updV ([(0,.I z)]) 1 (.I (IntKind.i64.wrap (z+z)))))] 7 [.q (PX.Con Try.prog 133 [(.J 0),(.J z),(.J z)] [] 7 7 (.sc (.I (IntKind.i64.wrap (z+z)))) [])] [] [.au,.au,.au,.au,.au,.au,.au,.au,.au,.au,.au,.cl [] (.sc (.I (IntKind.i64.wrap (z+z)))) [] 7,.au] [] [1,2,3,4] hS mixed hE ⟨PX.con_any (sh133_1 z),trivial⟩ fun a w hS=>?_
 refine hK1 _ _ ?_
 refine PX.G [(.e 8 (.sc (.bool true)))] [] 7 [] [] [.au] [8] [1,2,3,4] hS hE trivial fun a w hS=>?_
 refine wp_ret ?_
 try simp only [Exit.then,Exit.inBlock,Nat.reduceEqDiff,↓reduceIte]
 exact PX.ret_s hS hE (by kernel_rfl) (by kernel_rfl) (by kernel_rfl) (.inl rfl)

set_option maxHeartbeats 1000000 in
theorem sh95_1k2 (z:Int):PX.Con Try.prog 95 [(.ptr 1 0),(.ptr 2 0),(.agg [(.J 1),(.imm 11 shRf3bb33),(.J 4),(.J 1),(.J 0),(.imm 1 ([])),(.sc (.I (-1))),(.imm 1 ([])),(.sc (.I (-1))),(.imm 1 ([]))]),(.J 2)] [(1,.box 116 [(.sc (.slice none 0 0)),(.sc (.slice none 0 0)),(.imm 1 ([[(.imm 7 shR2c9698)]])),(.sc (.slice none 0 0)),(.imm 4 shR0c7572),(.J 3),(.J 0),(.J 3),(.J 0),(.J 1),(.own 4 1 1),(.sc (.slice none 0 0)),(.J 0),(.sc (.bool false)),(.J 0),(.sc (.slice none 0 0))]),(2,.box 142 [(.J 0),.any,(.map 3),.any,.any,.any,.any,.any,.any,.any,.any]),(3,.mp (PX.updV [(0,.I z)] 1 (.I (IntKind.i64.wrap (z+z))))),(4,.row 138 1 false ([[(.ptr 2 0)]]))] 5 100000 (.sc (.bool true)) [(1,some (.box 116 [(.sc (.slice none 0 0)),(.sc (.slice none 0 0)),(.imm 1 ([[(.imm 7 shR2c9698)]])),(.sc (.slice none 0 0)),(.imm 4 shR0c7572),(.J 3),(.J 0),(.J 3),(.J 0),(.J 1),(.own 4 1 1),(.sc (.slice none 0 0)),(.J 0),(.sc (.bool false)),(.J 0),(.imm 1 (shR79a67e z))])),(2,some (.box 142 [(.J 0),.any,(.map 3),.any,.any,.any,.any,.any,.any,.any,.any])),(3,some (.mp (PX.updV [(0,.I z)] 1 (.I (IntKind.i64.wrap (z+z)))))),(4,some (.row 138 1 false ([[(.ptr 2 0)]])))]:=by
 refine PX.con_intro [(.ptr 1 0),(.ptr 2 0),(.agg [(.J 1),(.imm 11 shRf3bb33),(.J 4),(.J 1),(.J 0),(.imm 1 ([])),(.sc (.I (-1))),(.imm 1 ([])),(.sc (.I (-1))),(.imm 1 ([]))]),(.J 2)] 211 Try.func95 rfl rfl (by kernel_rfl) (by kernel_rfl) ?_
 intro E a hE hS
 generalize E.w0=w at hS ⊢
 have mix:=mixed
 refine PX.G [(.e 6 (.ptr 5 0))] [(5,.box 62 [(.J 1),(.imm 11 shRf3bb33),(.J 4),(.J 1),(.J 0),(.imm 1 ([])),(.sc (.I (-1))),(.imm 1 ([])),(.sc (.I (-1))),(.imm 1 ([]))])] 6 [] [] [.au,.au] [0,1,3,6] [1,2,3,4,5] hS hE trivial fun a w hS=>?_
 refine PX.G [(.e 9 (.ptr 6 0))] [(6,.box 74 [(.J 18),(.J 0),(.J 1),(.J 0),(.J 0),(.J 0),(.J 0),(.J 0),(.J 0),(.J 0),(.J 0)])] 7 [.q (2=((2:Nat):Int)),.q (shRf3bb33[2]?=some ([(.J 18),(.J 0),(.J 1),(.J 0),(.J 0),(.J 0),(.J 0),(.J 0),(.J 0),(.J 0),(.J 0)]))] [] [.au,.au,.au,.ix 2 ([(.J 18),(.J 0),(.J 1),(.J 0),(.J 0),(.J 0),(.J 0),(.J 0),(.J 0),(.J 0),(.J 0)]),.au,.au,.au] [0,1,3,6,9] [1,2,3,4,5,6] hS hE ⟨rfl,rfl,trivial⟩ fun a w hS=>?_
 refine PX.D [(.e 10 (.sc (.I (IntKind.i64.wrap (z+z))))),(.e 11 (.J z))] [] 7 [.q ((.sc ((PX.findV (PX.updV [(0,.I z)] 1 (.I (IntKind.i64.wrap (z+z)))) 1).getD (.I 0)):PX.PV)=(.sc (.I (IntKind.i64.wrap (z+z))))),.q ((.sc ((PX.findV (PX.updV [(0,.I z)] 1 (.I (IntKind.i64.wrap (z+z)))) 0).getD (.I 0)):PX.PV)=(.J z))] [] [.au,.au,.au,.au,.au,.au,.nm (.sc (.I (IntKind.i64.wrap (z+z)))),.au,.au,.au,.au,.au,.au,.nm (.J z),.au,.au] [0,1,3,6,9,10,11] [1,2,3,4,5,6] hS mixed hE ⟨rfl,rfl,trivial⟩ fun a w hS=>?_
 refine wp_seq_k fun K1 hK1=>?_
 refine PX.G [(.e 32 (.J 18))] [] 7 [] [] [.au,.au] [0,1,3,6,9,10,11,32] [1,2,3,4,5,6] hS hE trivial fun a w hS=>?_
 refine wp_block ?_
 refine PX.G [(.e 45 (.sc (.bool false)))] [] 7 [] [] [.au,.au] [0,1,3,6,9,10,11,32,45] [1,2,3,4,5,6] hS hE trivial fun a w hS=>?_
 refine PX.cond_s false hS (by kernel_rfl) (fun h2=>nomatch h2) (fun h2=>?_)
 refine PX.G [(.e 55 (.sc (.bool false)))] [] 7 [] [] [.au,.au] [0,1,3,6,9,10,11,32,55] [1,2,3,4,5,6] hS hE trivial fun a w hS=>?_
 refine PX.cond_s false hS (by kernel_rfl) (fun h3=>nomatch h3) (fun h3=>?_)
 refine PX.G [(.e 64 (.sc (.bool false)))] [] 7 [] [] [.au,.au] [0,1,3,6,9,10,11,32,64] [1,2,3,4,5,6] hS hE trivial fun a w hS=>?_
 refine PX.cond_s false hS (by kernel_rfl) (fun h4=>nomatch h4) (fun h4=>?_)
 refine PX.G [(.e 104 (.sc (.bool false)))] [] 7 [] [] [.au,.au] [0,1,3,6,9,10,11,32,104] [1,2,3,4,5,6] hS hE trivial fun a w hS=>?_
 refine PX.cond_s false hS (by kernel_rfl) (fun h5=>nomatch h5) (fun h5=>?_)
 refine PX.G [(.e 132 (.sc (.bool false)))] [] 7 [] [] [.au,.au] [0,1,3,6,9,10,11,32,132] [1,2,3,4,5,6] hS hE trivial fun a w hS=>?_
 refine PX.cond_s false hS (by kernel_rfl) (fun h6=>nomatch h6) (fun h6=>?_)
 refine PX.G [(.e 151 (.sc (.bool true)))] [] 7 [] [] [.au,.au] [0,1,3,6,9,10,11,32,151] [1,2,3,4,5,6] hS hE trivial fun a w hS=>?_
 refine PX.cond_s true hS (by kernel_rfl) (fun h7=>?_) (fun h7=>nomatch h7)
 refine PX.G0 [] [(1,.box 116 [(.sc (.slice none 0 0)),(.sc (.slice none 0 0)),(.imm 1 ([[(.imm 7 shR2c9698)]])),(.sc (.slice none 0 0)),(.imm 4 shR0c7572),(.J 3),(.J 0),(.J 3),(.J 0),(.J 1),(.own 4 1 1),(.sc (.slice none 0 0)),(.J 0),(.sc (.bool false)),(.J 0),(.own 8 1 1)]),(8,.row 3 1 true ([[(.sc (.I (IntKind.i64.wrap (z+z))))]]))] 9 [.b true,.b (lenIs 1 ([[(.sc (.I (IntKind.i64.wrap (z+z))))]])),.b (Nat.ble (1) 1000000000)] [] [.au,.au,.au,.au,.au,.au,.au,.au,.au,.au,.au,.au,.au] [] [1,2,3,4,8] hS hE ⟨rfl,rfl,rfl,trivial⟩ fun a w hS=>?_
 refine hK1 _ _ ?_
 refine PX.G [(.e 8 (.sc (.bool true)))] [] 9 [] [] [.au] [8] [1,2,3,4,8] hS hE trivial fun a w hS=>?_
 refine wp_ret ?_
 try simp only [Exit.then,Exit.inBlock,Nat.reduceEqDiff,↓reduceIte]
 replace hS:=PX.fz 8 [] [(1,.box 116 [(.sc (.slice none 0 0)),(.sc (.slice none 0 0)),(.imm 1 ([[(.imm 7 shR2c9698)]])),(.sc (.slice none 0 0)),(.imm 4 shR0c7572),(.J 3),(.J 0),(.J 3),(.J 0),(.J 1),(.own 4 1 1),(.sc (.slice none 0 0)),(.J 0),(.sc (.bool false)),(.J 0),(.imm 1 ([[(.sc (.I (IntKind.i64.wrap (z+z))))]]))])] [8] [1,2,3,4] [.b (PX.lenIs 1 ([[(.sc (.I (IntKind.i64.wrap (z+z))))]]))] hS ⟨(rfl),trivial⟩
 exact PX.ret_s hS hE (by kernel_rfl) (by kernel_rfl) (by kernel_rfl) (.inl rfl)

set_option maxHeartbeats 1000000 in
theorem sh95_1k3 (z:Int):PX.Con Try.prog 95 [(.ptr 1 0),(.ptr 2 0),(.agg [(.J 1),(.imm 11 shRf3bb33),(.J 4),(.J 1),(.J 0),(.imm 1 ([])),(.sc (.I (-1))),(.imm 1 ([])),(.sc (.I (-1))),(.imm 1 ([]))]),(.J 3)] [(1,.box 116 [(.sc (.slice none 0 0)),(.sc (.slice none 0 0)),(.imm 1 ([[(.imm 7 shR2c9698)]])),(.sc (.slice none 0 0)),(.imm 4 shR0c7572),(.J 3),(.J 0),(.J 3),(.J 0),(.J 1),(.own 4 1 1),(.sc (.slice none 0 0)),(.J 0),(.sc (.bool false)),(.J 0),(.imm 1 (shR79a67e z))]),(2,.box 142 [(.J 0),.any,(.map 3),.any,.any,.any,.any,.any,.any,.any,.any]),(3,.mp (PX.updV [(0,.I z)] 1 (.I (IntKind.i64.wrap (z+z))))),(4,.row 138 1 false ([[(.ptr 2 0)]]))] 5 100000 (.sc (.bool true)) [(1,some (.box 116 [(.sc (.slice none 0 0)),(.sc (.slice none 0 0)),(.imm 1 ([[(.imm 7 shR2c9698)]])),(.sc (.slice none 0 0)),(.imm 4 shR0c7572),(.J 3),(.J 0),(.J 3),(.J 1),(.J 0),(.own 4 1 1),(.imm 1 ([[(.imm 3 (shRe55e87 z))]])),(.J 0),(.sc (.bool false)),(.J 0),(.imm 1 (shR79a67e z))])),(2,some (.box 142 [(.J 0),.any,(.map 3),.any,.any,.any,.any,.any,.any,.any,.any])),(3,some (.mp (PX.updV [(0,.I z)] 1 (.I (IntKind.i64.wrap (z+z)))))),(4,some (.row 138 1 false ([[(.ptr 2 0)]])))]:=by
 refine PX.con_intro [(.ptr 1 0),(.ptr 2 0),(.agg [(.J 1),(.imm 11 shRf3bb33),(.J 4),(.J 1),(.J 0),(.imm 1 ([])),(.sc (.I (-1))),(.imm 1 ([])),(.sc (.I (-1))),(.imm 1 ([]))]),(.J 3)] 211 Try.func95 rfl rfl (by kernel_rfl) (by kernel_rfl) ?_
 intro E a hE hS
 generalize E.w0=w at hS ⊢
 have mix:=mixed
 refine PX.G [(.e 6 (.ptr 5 0))] [(5,.box 62 [(.J 1),(.imm 11 shRf3bb33),(.J 4),(.J 1),(.J 0),(.imm 1 ([])),(.sc (.I (-1))),(.imm 1 ([])),(.sc (.I (-1))),(.imm 1 ([]))])] 6 [] [] [.au,.au] [0,1,3,6] [1,2,3,4,5] hS hE trivial fun a w hS=>?_
 refine PX.G [(.e 9 (.ptr 6 0))] [(6,.box 74 [(.J 19),(.J 0),(.J 0),(.J 0),(.J 3),(.J 0),(.J 0),(.J 0),(.J 0),(.J 0),(.J 0)])] 7 [.q (3=((3:Nat):Int)),.q (shRf3bb33[3]?=some ([(.J 19),(.J 0),(.J 0),(.J 0),(.J 3),(.J 0),(.J 0),(.J 0),(.J 0),(.J 0),(.J 0)]))] [] [.au,.au,.au,.ix 3 ([(.J 19),(.J 0),(.J 0),(.J 0),(.J 3),(.J 0),(.J 0),(.J 0),(.J 0),(.J 0),(.J 0)]),.au,.au,.au] [0,1,3,6,9] [1,2,3,4,5,6] hS hE ⟨rfl,rfl,trivial⟩ fun a w hS=>?_
 refine PX.D [(.e 10 (.J z)),(.e 11 (.J z))] [] 7 [.q ((.sc ((PX.findV (PX.updV [(0,.I z)] 1 (.I (IntKind.i64.wrap (z+z)))) 0).getD (.I 0)):PX.PV)=(.J z)),.q ((.sc ((PX.findV (PX.updV [(0,.I z)] 1 (.I (IntKind.i64.wrap (z+z)))) 0).getD (.I 0)):PX.PV)=(.J z))] [] [.au,.au,.au,.au,.au,.au,.nm (.J z),.au,.au,.au,.au,.au,.au,.nm (.J z),.au,.au] [0,1,3,6,9,10,11] [1,2,3,4,5,6] hS mixed hE ⟨rfl,rfl,trivial⟩ fun a w hS=>?_
 refine wp_seq_k fun K1 hK1=>?_
 refine PX.G [(.e 32 (.J 19))] [] 7 [] [] [.au,.au] [0,1,3,6,9,10,11,32] [1,2,3,4,5,6] hS hE trivial fun a w hS=>?_
 refine wp_block ?_
 refine PX.G [(.e 45 (.sc (.bool false)))] [] 7 [] [] [.au,.au] [0,1,3,6,9,10,11,32,45] [1,2,3,4,5,6] hS hE trivial fun a w hS=>?_
 refine PX.cond_s false hS (by kernel_rfl) (fun h2=>nomatch h2) (fun h2=>?_)
 refine PX.G [(.e 55 (.sc (.bool false)))] [] 7 [] [] [.au,.au] [0,1,3,6,9,10,11,32,55] [1,2,3,4,5,6] hS hE trivial fun a w hS=>?_
 refine PX.cond_s false hS (by kernel_rfl) (fun h3=>nomatch h3) (fun h3=>?_)
 refine PX.G [(.e 64 (.sc (.bool false)))] [] 7 [] [] [.au,.au] [0,1,3,6,9,10,11,32,64] [1,2,3,4,5,6] hS hE trivial fun a w hS=>?_
 refine PX.cond_s false hS (by kernel_rfl) (fun h4=>nomatch h4) (fun h4=>?_)
 refine PX.G [(.e 104 (.sc (.bool false)))] [] 7 [] [] [.au,.au] [0,1,3,6,9,10,11,32,104] [1,2,3,4,5,6] hS hE trivial fun a w hS=>?_
 refine PX.cond_s false hS (by kernel_rfl) (fun h5=>nomatch h5) (fun h5=>?_)
 refine PX.G [(.e 132 (.sc (.bool false)))] [] 7 [] [] [.au,.au] [0,1,3,6,9,10,11,32,132] [1,2,3,4,5,6] hS hE trivial fun a w hS=>?_
 refine PX.cond_s false hS (by kernel_rfl) (fun h6=>nomatch h6) (fun h6=>?_)
 refine PX.G [(.e 151 (.sc (.bool false)))] [] 7 [] [] [.au,.au] [0,1,3,6,9,10,11,32,151] [1,2,3,4,5,6] hS hE trivial fun a w hS=>?_
 refine PX.cond_s false hS (by kernel_rfl) (fun h7=>nomatch h7) (fun h7=>?_)
 refine wp_seq_k fun K8 hK8=>?_
 refine PX.G [(.e 165 (.sc (.bool true)))] [] 7 [] [] [.au,.au] [0,1,3,6,9,10,11,32,165] [1,2,3,4,5,6] hS hE trivial fun a w hS=>?_
 refine PX.cond_s true hS (by kernel_rfl) (fun h9=>?_) (fun h9=>nomatch h9)
 refine wp_skip ?_
 refine hK8 _ _ ?_
 refine PX.cond_s true hS (by kernel_rfl) (fun h10=>?_) (fun h10=>nomatch h10)
 refine wp_seq_k fun K11 hK11=>?_
 refine PX.D [(.e 181 (.sc (.bool false)))] [] 7 [] [] [.au,.au,.au,.au,.au,.au,.au,.au,.au,.au,.au,.au,.au,.au] [0,1,3,6,9,181] [1,2,3,4,5,6] hS mixed hE trivial fun a w hS=>?_
 refine PX.cond_s false hS (by kernel_rfl) (fun h12=>nomatch h12) (fun h12=>?_)
 refine wp_skip ?_
 refine hK11 _ _ ?_
 refine PX.D [] [(2,.box 142 [(.J 0),.any,(.map 3),.any,(.J 0),(.J 3),(.imm 11 shR439b68),.any,.any,.any,.any])] 7 [.q ((0:Nat)≤3),.q (3≤shRf3bb33.length),.q ((shRf3bb33.take 3).drop 0=shR906903),.q ((0:Nat)=0),.q (3=((3:Nat):Int)),.q (PX.Con Try.prog 132 [(.imm 11 shR906903)] [] 7 7 (.imm 11 shR439b68) [])] [] [.au,.au,.au,.au,.au,.au,.au,.au,.au,.au,.sl 0 3 shR906903,.cl [] (.imm 11 shR439b68) [] 7,.au,.au,.au,.au,.au,.au,.au,.au,.au] [0,9] [1,2,3,4,6] hS mixed hE ⟨by decide,by decide,rfl,rfl,rfl,PX.con_any (sh132_1 z),trivial⟩ fun a w hS=>?_
 refine PX.G [(.e 8 (.sc (.bool true)))] [(1,.box 116 [(.sc (.slice none 0 0)),(.sc (.slice none 0 0)),(.imm 1 ([[(.imm 7 shR2c9698)]])),(.sc (.slice none 0 0)),(.imm 4 shR0c7572),(.J 3),(.J 0),(.J 3),(.J 1),(.J 0),(.own 4 1 1),(.imm 1 ([[(.imm 3 (shRe55e87 z))]])),(.J 0),(.sc (.bool false)),(.J 0),(.imm 1 (shR79a67e z))]),(2,.box 142 [(.J 0),.any,(.map 3),.any,(.J 0),(.J 3),(.imm 11 shR439b68),.any,.any,.any,.any]),(3,.mp (PX.updV [(0,.I z)] 1 (.I (IntKind.i64.wrap (z+z))))),(4,.row 138 1 false ([[(.ptr 2 0)]]))] 7 [.q (PX.Con Try.prog 131 [(.ptr 1 0)] [(1,.box 116 [(.sc (.slice none 0 0)),(.sc (.slice none 0 0)),(.imm 1 ([[(.imm 7 shR2c9698)]])),(.sc (.slice none 0 0)),(.imm 4 shR0c7572),(.J 3),(.J 0),(.J 3),(.J 0),(.J 1),(.own 4 1 1),(.sc (.slice none 0 0)),(.J 0),(.sc (.bool false)),(.J 0),(.imm 1 (shR79a67e z))]),(2,.box 142 [(.J 0),.any,(.map 3),.any,(.J 0),(.J 3),(.imm 11 shR439b68),.any,.any,.any,.any]),(3,.mp (PX.updV [(0,.I z)] 1 (.I (IntKind.i64.wrap (z+z))))),(4,.row 138 1 false ([[(.ptr 2 0)]]))] 7 7 (.sc (.bool true)) [(1,some (.box 116 [(.sc (.slice none 0 0)),(.sc (.slice none 0 0)),(.imm 1 ([[(.imm 7 shR2c9698)]])),(.sc (.slice none 0 0)),(.imm 4 shR0c7572),(.J 3),(.J 0),(.J 3),(.J 1),(.J 0),(.own 4 1 1),(.imm 1 ([[(.imm 3 (shRe55e87 z))]])),(.J 0),(.sc (.bool false)),(.J 0),(.imm 1 (shR79a67e z))])),(2,some (.box 142 [(.J 0),.any,(.map 3),.any,(.J 0),(.J 3),(.imm 11 shR439b68),.any,.any,.any,.any])),(3,some (.mp (PX.updV [(0,.I z)] 1 (.I (IntKind.i64.wrap (z+z)))))),(4,some (.row 138 1 false ([[(.ptr 2 0)]])))])] [] [.au,.au,.au,.au,.au,.cl [1,2,3,4] (.sc (.bool true)) [(1,some (.box 116 [(.sc (.slice none 0 0)),(.sc (.slice none 0 0)),(.imm 1 ([[(.imm 7 shR2c9698)]])),(.sc (.slice none 0 0)),(.imm 4 shR0c7572),(.J 3),(.J 0),(.J 3),(.J 1),(.J 0),(.own 4 1 1),(.imm 1 ([[(.imm 3 (shRe55e87 z))]])),(.J 0),(.sc (.bool false)),(.J 0),(.imm 1 (shR79a67e z))])),(2,some (.box 142 [(.J 0),.any,(.map 3),.any,(.J 0),(.J 3),(.imm 11 shR439b68),.any,.any,.any,.any])),(3,some (.mp (PX.updV [(0,.I z)] 1 (.I (IntKind.i64.wrap (z+z)))))),(4,some (.row 138 1 false ([[(.ptr 2 0)]])))] 7,.au,.au] [8] [1,2,3,4] hS hE ⟨PX.con_as [(1,1),(2,2),(3,3),(4,4)] [(1,1),(2,2),(3,3),(4,4)] (sh131_1 z) (by kernel_rfl) (by kernel_rfl) (by kernel_rfl) (by kernel_rfl) (by kernel_rfl) (by kernel_rfl),trivial⟩ fun a w hS=>?_
 refine wp_ret ?_
 try simp only [Exit.then,Exit.inBlock,Nat.reduceEqDiff,↓reduceIte]
 replace hS:=PX.recell (id:=2) (j:=4) .any hS rfl rfl rfl (PX.any_of rfl)
 replace hS:=PX.recell (id:=2) (j:=5) .any hS rfl rfl rfl (PX.any_of rfl)
 replace hS:=PX.recell (id:=2) (j:=6) .any hS rfl rfl rfl (PX.any_of rfl)
 exact PX.ret_s hS hE (by kernel_rfl) (by kernel_rfl) (by kernel_rfl) (.inl rfl)

set_option maxHeartbeats 400000 in
theorem sh94_1 (z:Int):PX.Con Try.prog 94 [(.ptr 1 0),(.J 0),(.imm 1 ([[(.J z)]]))] [(1,.box 116 [(.sc (.slice none 0 0)),(.sc (.slice none 0 0)),(.imm 1 ([[(.imm 7 shR2c9698)]])),(.sc (.slice none 0 0)),(.imm 4 shR0c7572),(.J 3),(.J 0),(.J 3),(.J 0),(.J 0),(.sc (.slice none 0 0)),(.sc (.slice none 0 0)),(.J 0),(.sc (.bool false)),(.J 0),(.sc (.slice none 0 0))])] 2 100000 (.sc (.bool true)) [(1,some (.box 116 [(.sc (.slice none 0 0)),(.sc (.slice none 0 0)),(.imm 1 ([[(.imm 7 shR2c9698)]])),(.sc (.slice none 0 0)),(.imm 4 shR0c7572),(.J 3),(.J 0),(.J 3),(.J 0),(.J 0),(.own 3 1 1),(.sc (.slice none 0 0)),(.J 0),(.sc (.bool false)),(.J 0),(.sc (.slice none 0 0))])),(2,some (.box 142 [(.J 0),.any,.any,.any,.any,.any,.any,.any,.any,.any,.any])),(3,some (.row 138 1 false ([[(.ptr 2 0)]])))]:=by
 refine PX.con_intro [(.ptr 1 0),(.J 0),(.imm 1 ([[(.J z)]]))] 61 Try.func94 rfl rfl (by kernel_rfl) (by kernel_rfl) ?_
 intro E a hE hS
 generalize E.w0=w at hS ⊢
 have mix:=mixed
 refine PX.G [(.e 6 (.sc (.bool false)))] [] 2 [] [] [.au] [0,1,2,6] [1] hS hE trivial fun a w hS=>?_
 refine wp_seq_k fun K1 hK1=>?_
 refine PX.G [(.e 15 (.sc (.bool false)))] [] 2 [] [] [.au,.au,.au,.au,.au,.au] [0,1,2,6,15] [1] hS hE trivial fun a w hS=>?_
 refine PX.cond_s false hS (by kernel_rfl) (fun h2=>nomatch h2) (fun h2=>?_)
 refine wp_skip ?_
 refine hK1 _ _ ?_
 refine PX.G [(.e 7 (.ptr 2 0))] [(2,.box 142 [(.J 0),(.imm 1 ([[(.J z)]])),(.sc (.map none)),(.sc (.slice none 0 0)),(.J 0),(.sc (.I (-1))),(.sc (.slice none 0 0)),(.J 0),(.sc (.slice none 0 0)),(.J 0),(.sc (.slice none 0 0))])] 3 [] [] [.au,.au,.au,.au,.au] [0,1,6,7] [1,2] hS hE trivial fun a w hS=>?_
 refine wp_seq_k fun K3 hK3=>?_
 refine PX.G [(.e 32 (.imm 3 ([]))),(.e 33 (.J 0)),(.e 34 (.J 0))] [] 3 [.q (0=((0:Nat):Int)),.q (shR0c7572[0]?=some ([(.J 1),(.imm 10 shRf7d06f),(.imm 3 shR8cf714),(.imm 3 ([]))])),.q ((.sc (.I ((([]:List (List PX.PV)).length:Nat):Int)):PX.PV)=(.J 0))] [] [.au,.au,.au,.au,.au,.au,.ix 0 ([(.J 1),(.imm 10 shRf7d06f),(.imm 3 shR8cf714),(.imm 3 ([]))]),.au,.au,.nm (.J 0),.au] [0,6,7,32,33,34] [1,2] hS hE ⟨rfl,rfl,rfl,trivial⟩ fun a w hS=>?_
 refine wp_block ?_
 refine wp_loop_rounds 1 ?_
 rw [rounds_succ]
 refine PX.G [(.e 35 (.sc (.bool false)))] [] 3 [] [] [.au] [0,6,7,32,33,34,35] [1,2] hS hE trivial fun a w hS=>?_
 refine wp_seq_k fun K4 hK4=>?_
 refine PX.cond_s false hS (by kernel_rfl) (fun h5=>nomatch h5) (fun h5=>?_)
 refine wp_exit ?_
 refine hK3 _ _ ?_
 refine PX.G [] [(1,.box 116 [(.sc (.slice none 0 0)),(.sc (.slice none 0 0)),(.imm 1 ([[(.imm 7 shR2c9698)]])),(.sc (.slice none 0 0)),(.imm 4 shR0c7572),(.J 3),(.J 0),(.J 3),(.J 0),(.J 0),(.own 4 1 1),(.sc (.slice none 0 0)),(.J 0),(.sc (.bool false)),(.J 0),(.sc (.slice none 0 0))]),(4,.row 138 1 false ([[(.ptr 2 0)]]))] 5 [.b true,.b (lenIs 1 ([[(.ptr 2 0)]])),.b (Nat.ble (1) 1000000000)] [] [.au,.au,.au,.au,.au,.au,.au,.au,.au,.au,.au] [6] [1,2,4] hS hE ⟨rfl,rfl,rfl,trivial⟩ fun a w hS=>?_
 refine PX.G [(.e 6 (.sc (.bool true)))] [] 5 [] [] [.au] [6] [1,2,4] hS hE trivial fun a w hS=>?_
 refine wp_ret ?_
 try simp only [Exit.then,Exit.inBlock,Nat.reduceEqDiff,↓reduceIte]
 replace hS:=PX.recell (id:=2) (j:=1) .any hS rfl rfl rfl (PX.any_of rfl)
 replace hS:=PX.recell (id:=2) (j:=2) .any hS rfl rfl rfl (PX.any_of rfl)
 replace hS:=PX.recell (id:=2) (j:=3) .any hS rfl rfl rfl (PX.any_of rfl)
 replace hS:=PX.recell (id:=2) (j:=4) .any hS rfl rfl rfl (PX.any_of rfl)
 replace hS:=PX.recell (id:=2) (j:=5) .any hS rfl rfl rfl (PX.any_of rfl)
 replace hS:=PX.recell (id:=2) (j:=6) .any hS rfl rfl rfl (PX.any_of rfl)
 replace hS:=PX.recell (id:=2) (j:=7) .any hS rfl rfl rfl (PX.any_of rfl)
 replace hS:=PX.recell (id:=2) (j:=8) .any hS rfl rfl rfl (PX.any_of rfl)
 replace hS:=PX.recell (id:=2) (j:=9) .any hS rfl rfl rfl (PX.any_of rfl)
 replace hS:=PX.recell (id:=2) (j:=10) .any hS rfl rfl rfl (PX.any_of rfl)
 replace hS:=(PX.canon [(3,4)] [(.e 6 (.sc (.bool true)))] [(1,.box 116 [(.sc (.slice none 0 0)),(.sc (.slice none 0 0)),(.imm 1 ([[(.imm 7 shR2c9698)]])),(.sc (.slice none 0 0)),(.imm 4 shR0c7572),(.J 3),(.J 0),(.J 3),(.J 0),(.J 0),(.own 3 1 1),(.sc (.slice none 0 0)),(.J 0),(.sc (.bool false)),(.J 0),(.sc (.slice none 0 0))]),(2,.box 142 [(.J 0),.any,.any,.any,.any,.any,.any,.any,.any,.any,.any]),(3,.row 138 1 false ([[(.ptr 2 0)]]))] 4 hS hE (by kernel_rfl) (by kernel_rfl) (by kernel_rfl))
 exact PX.ret_s hS hE (by kernel_rfl) (by kernel_rfl) (by kernel_rfl) (.inl rfl)

set_option maxHeartbeats 1000000 in
theorem sh97_1 (z:Int):PX.Con Try.prog 97 [(.ptr 1 0),(.sc (.I (IntKind.i64.wrap (z+z)))),(.sc (.bool false))] [(1,.box 116 [(.sc (.slice none 0 0)),(.sc (.slice none 0 0)),(.imm 1 ([[(.imm 7 shR2c9698)]])),(.sc (.slice none 0 0)),(.imm 4 shR0c7572),(.J 3),(.J 0),(.J 3),(.J 1),(.J 0),(.own 4 1 1),(.imm 1 ([[(.imm 3 (shRe55e87 z))]])),(.J 0),(.sc (.bool false)),(.J 0),(.imm 1 (shR79a67e z))]),(2,.box 142 [(.J 0),.any,(.map 3),.any,.any,.any,.any,.any,.any,.any,.any]),(3,.mp (PX.updV [(0,.I z)] 1 (.I (IntKind.i64.wrap (z+z))))),(4,.row 138 1 false ([[(.ptr 2 0)]]))] 5 100000 (.tup [.sc (.I (-1)),.sc (.slice none 0 0)]) [(1,some (.box 116 [(.sc (.slice none 0 0)),(.sc (.slice none 0 0)),(.imm 1 ([[(.imm 7 shR2c9698)]])),(.sc (.slice none 0 0)),(.imm 4 shR0c7572),(.J 3),(.J 0),(.J 3),(.J 1),(.J 0),.any,(.imm 1 ([[(.imm 3 (shRe55e87 z))]])),(.J 0),(.sc (.bool false)),(.sc (.I (IntKind.i64.wrap (z+z)))),(.imm 1 (shR79a67e z))])),(2,none),(3,none),(4,none)]:=by
 refine PX.con_intro [(.ptr 1 0),(.sc (.I (IntKind.i64.wrap (z+z)))),(.sc (.bool false))] 77 Try.func97 rfl rfl (by kernel_rfl) (by kernel_rfl) ?_
 intro E a hE hS
 generalize E.w0=w at hS ⊢
 have mix:=mixed
 refine PX.G [] [] 5 [] [] [.au,.au] [0,1,2] [1,2,3,4] hS hE trivial fun a w hS=>?_
 refine wp_block ?_
 refine wp_loop_rounds 1 ?_
 rw [rounds_succ]
 refine wp_block ?_
 refine PX.D [] [(1,.box 116 [(.sc (.slice none 0 0)),(.sc (.slice none 0 0)),(.imm 1 ([[(.imm 7 shR2c9698)]])),(.sc (.slice none 0 0)),(.imm 4 shR0c7572),(.J 3),(.J 0),(.J 3),(.J 1),(.J 0),(.own 6 1 0),(.imm 1 ([[(.imm 3 (shRe55e87 z))]])),(.J 0),(.sc (.bool false)),(.J 0),(.imm 1 (shR79a67e z))]),(6,.row 138 1 true ([]))] 7 [.q ((.sc (.I ((1:Nat):Int)):PX.PV)=(.J 1)),.q ((0:Nat)=0),.q (0=((0:Nat):Int)),.b (lenIs 0 ([])),.b true,.b (Nat.ble (0) 1000000000)] [] [.au,.au,.au,.au,.au,.au,.au,.au,.au,.au,.nm (.J 1),.au,.sl 0 0 [],.au,.au,.au,.au] [0,1,2] [1,6] hS mixed hE ⟨rfl,rfl,rfl,rfl,rfl,rfl,trivial⟩ fun a w hS=>?_
 refine wp_seq_k fun K1 hK1=>?_
 refine PX.G [(.e 31 (.sc (.bool true)))] [] 7 [.q ((.sc (.I ((0:Nat):Int)):PX.PV)=(.J 0))] [] [.au,.au,.au,.au,.nm (.J 0),.au] [0,1,2,31] [1,6] hS hE ⟨rfl,trivial⟩ fun a w hS=>?_
 refine PX.cond_s true hS (by kernel_rfl) (fun h2=>?_) (fun h2=>nomatch h2)
 refine PX.G [] [(1,.box 116 [(.sc (.slice none 0 0)),(.sc (.slice none 0 0)),(.imm 1 ([[(.imm 7 shR2c9698)]])),(.sc (.slice none 0 0)),(.imm 4 shR0c7572),(.J 3),(.J 0),(.J 3),(.J 1),(.J 0),(.own 6 1 0),(.imm 1 ([[(.imm 3 (shRe55e87 z))]])),(.J 0),(.sc (.bool false)),(.sc (.I (IntKind.i64.wrap (z+z)))),(.imm 1 (shR79a67e z))])] 7 [] [] [.au,.au,.au,.au,.au,.au,.au,.au,.au,.au,.au,.au] [0,1,2] [1,6] hS hE trivial fun a w hS=>?_
 refine PX.G [(.e 6 (.sc (.I (-1)))),(.e 7 (.sc (.slice none 0 0)))] [] 7 [] [] [.au,.au] [0,1,2,6,7] [1,6] hS hE trivial fun a w hS=>?_
 refine wp_ret ?_
 try simp only [Exit.then,Exit.inBlock,Nat.reduceEqDiff,↓reduceIte]
 replace hS:=PX.recell (id:=1) (j:=10) .any hS rfl rfl rfl (PX.any_of rfl)
 exact PX.ret_s hS hE (by kernel_rfl) (by kernel_rfl) (by kernel_rfl) (.inl rfl)

set_option maxHeartbeats 2000000 in
theorem sh61_1 (z:Int):PX.Con Try.prog 61 [(.ptr 1 0),(.J 0),(.own 2 1 1)] [(1,.box 116 [(.sc (.slice none 0 0)),(.sc (.slice none 0 0)),(.imm 1 ([[(.imm 7 shR2c9698)]])),(.sc (.slice none 0 0)),(.imm 4 shR0c7572),(.J 3),(.J 0),(.J 3),(.J 0),(.J 0),(.sc (.slice none 0 0)),(.sc (.slice none 0 0)),(.J 0),(.sc (.bool false)),(.J 0),(.sc (.slice none 0 0))]),(2,.row 3 1 true ([[(.J z)]]))] 3 100000 (.tup []) [(1,some (.box 116 [(.sc (.slice none 0 0)),(.sc (.slice none 0 0)),(.imm 1 ([[(.imm 7 shR2c9698)]])),(.sc (.slice none 0 0)),(.imm 4 shR0c7572),(.J 3),(.J 0),(.J 3),.any,.any,.any,(.imm 1 ([[(.imm 3 (shRe55e87 z))]])),(.J 0),(.sc (.bool false)),(.sc (.I (IntKind.i64.wrap (z+z)))),(.imm 1 (shR79a67e z))])),(2,none)]:=by
 refine PX.con_intro [(.ptr 1 0),(.J 0),(.own 2 1 1)] 185 Try.func61 rfl rfl (by kernel_rfl) (by kernel_rfl) ?_
 intro E a hE hS
 generalize E.w0=w at hS ⊢
 have mix:=mixed
 refine wp_seq_k fun K1 hK1=>?_
 replace hS:=PX.fz 2 [(.e 2 (.imm 1 ([[(.J z)]])))] [] [0,1,2] [1] [.b (PX.lenIs 1 ([[(.J z)]]))] hS ⟨(rfl),trivial⟩
 refine PX.G [(.e 18 (.sc (.bool false)))] [(1,.box 116 [(.sc (.slice none 0 0)),(.sc (.slice none 0 0)),(.imm 1 ([[(.imm 7 shR2c9698)]])),(.sc (.slice none 0 0)),(.imm 4 shR0c7572),(.J 3),(.J 0),(.J 3),(.J 0),(.J 0),(.own 4 1 1),(.sc (.slice none 0 0)),(.J 0),(.sc (.bool false)),(.J 0),(.sc (.slice none 0 0))]),(3,.box 142 [(.J 0),.any,.any,.any,.any,.any,.any,.any,.any,.any,.any]),(4,.row 138 1 false ([[(.ptr 3 0)]]))] 5 [.q (PX.Con Try.prog 94 [(.ptr 1 0),(.J 0),(.imm 1 ([[(.J z)]]))] [(1,.box 116 [(.sc (.slice none 0 0)),(.sc (.slice none 0 0)),(.imm 1 ([[(.imm 7 shR2c9698)]])),(.sc (.slice none 0 0)),(.imm 4 shR0c7572),(.J 3),(.J 0),(.J 3),(.J 0),(.J 0),(.sc (.slice none 0 0)),(.sc (.slice none 0 0)),(.J 0),(.sc (.bool false)),(.J 0),(.sc (.slice none 0 0))])] 3 5 (.sc (.bool true)) [(1,some (.box 116 [(.sc (.slice none 0 0)),(.sc (.slice none 0 0)),(.imm 1 ([[(.imm 7 shR2c9698)]])),(.sc (.slice none 0 0)),(.imm 4 shR0c7572),(.J 3),(.J 0),(.J 3),(.J 0),(.J 0),(.own 4 1 1),(.sc (.slice none 0 0)),(.J 0),(.sc (.bool false)),(.J 0),(.sc (.slice none 0 0))])),(3,some (.box 142 [(.J 0),.any,.any,.any,.any,.any,.any,.any,.any,.any,.any])),(4,some (.row 138 1 false ([[(.ptr 3 0)]])))])] [] [.au,.au,.au,.cl [1] (.sc (.bool true)) [(1,some (.box 116 [(.sc (.slice none 0 0)),(.sc (.slice none 0 0)),(.imm 1 ([[(.imm 7 shR2c9698)]])),(.sc (.slice none 0 0)),(.imm 4 shR0c7572),(.J 3),(.J 0),(.J 3),(.J 0),(.J 0),(.own 4 1 1),(.sc (.slice none 0 0)),(.J 0),(.sc (.bool false)),(.J 0),(.sc (.slice none 0 0))])),(3,some (.box 142 [(.J 0),.any,.any,.any,.any,.any,.any,.any,.any,.any,.any])),(4,some (.row 138 1 false ([[(.ptr 3 0)]])))] 5,.au] [0,2,18] [1,3,4] hS hE ⟨PX.con_as [(1,1),(3,2),(4,3)] [(1,1),(2,3),(3,4)] (sh94_1 z) (by kernel_rfl) (by kernel_rfl) (by kernel_rfl) (by kernel_rfl) (by kernel_rfl) (by kernel_rfl),trivial⟩ fun a w hS=>?_
 refine PX.cond_s false hS (by kernel_rfl) (fun h2=>nomatch h2) (fun h2=>?_)
 refine wp_skip ?_
 refine hK1 _ _ ?_
 refine PX.G [(.e 6 (.J 0))] [] 5 [] [] [.au] [0,2,6] [1,3,4] hS hE trivial fun a w hS=>?_
 refine wp_block ?_
 refine wp_loop_rounds 2 ?_
 rw [rounds_succ]
 refine wp_seq_k fun K3 hK3=>?_
 refine PX.G [(.e 20 (.sc (.bool true)))] [] 5 [] [] [.au,.au] [0,2,6,20] [1,3,4] hS hE trivial fun a w hS=>?_
 refine PX.cond_s true hS (by kernel_rfl) (fun h4=>?_) (fun h4=>nomatch h4)
 refine wp_skip ?_
 refine hK3 _ _ ?_
 refine wp_block ?_
 refine wp_seq_k fun K5 hK5=>?_
 refine PX.G [(.e 25 (.sc (.bool false)))] [] 5 [] [] [.au,.au,.au,.au,.au] [0,2,6,25] [1,3,4] hS hE trivial fun a w hS=>?_
 refine PX.cond_s false hS (by kernel_rfl) (fun h6=>nomatch h6) (fun h6=>?_)
 refine wp_skip ?_
 refine hK5 _ _ ?_
 refine PX.G [] [(1,.box 116 [(.sc (.slice none 0 0)),(.sc (.slice none 0 0)),(.imm 1 ([[(.imm 7 shR2c9698)]])),(.sc (.slice none 0 0)),(.imm 4 shR0c7572),(.J 3),(.J 0),(.J 3),(.J 0),(.J 1),(.own 4 1 1),(.sc (.slice none 0 0)),(.J 0),(.sc (.bool false)),(.J 0),(.sc (.slice none 0 0))])] 5 [] [] [.au,.au,.au,.au,.au,.au,.au,.au] [0,2,6] [1,3,4] hS hE trivial fun a w hS=>?_
 refine PX.D [(.e 7 (.ptr 3 0))] [] 5 [.q ((.sc (.I ((1:Nat):Int)):PX.PV)=(.J 1)),.q (0=((0:Nat):Int)),.q (0<1)] [] [.au,.au,.au,.au,.au,.au,.au,.au,.nm (.J 1),.au,.ix 0 [],.au,.au] [0,2,6,7] [1,3,4] hS mixed hE ⟨rfl,by omega,by decide,trivial⟩ fun a w hS=>?_
 refine PX.D [(.e 8 (.ptr 5 0))] [(5,.box 62 [(.J 1),(.imm 11 shRf3bb33),(.J 4),(.J 1),(.J 0),(.imm 1 ([])),(.sc (.I (-1))),(.imm 1 ([])),(.sc (.I (-1))),(.imm 1 ([]))])] 6 [.q (0=((0:Nat):Int)),.q (shR0c7572[0]?=some ([(.J 1),(.imm 10 shRf7d06f),(.imm 3 shR8cf714),(.imm 3 ([]))])),.q (0=((0:Nat):Int)),.q (shRf7d06f[0]?=some ([(.J 1),(.imm 11 shRf3bb33),(.J 4),(.J 1),(.J 0),(.imm 1 ([])),(.sc (.I (-1))),(.imm 1 ([])),(.sc (.I (-1))),(.imm 1 ([]))]))] [] [.au,.au,.au,.au,.au,.au,.au,.au,.au,.ix 0 ([(.J 1),(.imm 10 shRf7d06f),(.imm 3 shR8cf714),(.imm 3 ([]))]),.au,.au,.au,.ix 0 ([(.J 1),(.imm 11 shRf3bb33),(.J 4),(.J 1),(.J 0),(.imm 1 ([])),(.sc (.I (-1))),(.imm 1 ([])),(.sc (.I (-1))),(.imm 1 ([]))]),.au,.au,.au] [0,2,6,7,8] [1,3,4,5] hS mixed hE ⟨rfl,rfl,rfl,rfl,trivial⟩ fun a w hS=>?_
 refine PX.G [] [(3,.box 142 [(.J 0),.any,(.map 6),.any,.any,(.sc (.I (-1))),(.sc (.slice none 0 0)),.any,.any,.any,.any]),(6,.mp ([]))] 7 [] [] [.au,.au,.au,.au,.au,.au,.au,.au,.au,.au,.au,.au,.au] [0,2,6,7,8] [1,3,4,5,6] hS hE trivial fun a w hS=>?_
 replace hS:=PX.recell (id:=3) (j:=5) .any hS rfl rfl rfl (PX.any_of rfl)
 replace hS:=PX.recell (id:=3) (j:=6) .any hS rfl rfl rfl (PX.any_of rfl)
 refine wp_seq_k fun K7 hK7=>?_
 refine PX.G [(.e 74 (.imm 1 ([[(.J z)]]))),(.e 75 (.J 1)),(.e 76 (.J 0))] [] 7 [.q ((.sc (.I ((([[(.J z)]]:List (List PX.PV)).length:Nat):Int)):PX.PV)=(.J 1))] [] [.au,.nm (.J 1),.au] [0,2,6,7,8,74,75,76] [1,3,4,5,6] hS hE ⟨rfl,trivial⟩ fun a w hS=>?_
 refine wp_block ?_
 refine wp_loop_rounds 2 ?_
 rw [rounds_succ]
 refine PX.G [(.e 77 (.sc (.bool true)))] [] 7 [] [] [.au] [0,2,6,7,8,74,75,76,77] [1,3,4,5,6] hS hE trivial fun a w hS=>?_
 refine wp_seq_k fun K8 hK8=>?_
 refine PX.cond_s true hS (by kernel_rfl) (fun h9=>?_) (fun h9=>nomatch h9)
 refine wp_skip ?_
 refine hK8 _ _ ?_
 refine wp_seq_k fun K10 hK10=>?_
 refine wp_block ?_
 refine PX.G [(.e 9 (.J 0)),(.e 10 (.J z))] [] 7 [.q (0=((0:Nat):Int)),.q (([[(.J z)]]:List (List PX.PV))[0]?=some ([(.J z)]))] [] [.au,.ix 0 ([(.J z)]),.au,.au,.au] [0,2,6,7,8,9,10,74,75,76] [1,3,4,5,6] hS hE ⟨rfl,rfl,trivial⟩ fun a w hS=>?_
 refine PX.G0 [] [(6,.mp (PX.updV ([]) 0 (.I z)))] 7 [] [] [.au,.au,.au,.au,.au,.au,.au] [0,2,6,7,8,74,75,76] [1,3,4,5,6] hS hE trivial fun a w hS=>?_
 refine hK10 _ _ ?_
 refine PX.G0 [(.e 76 (.J 1))] [] 7 [] [] [.au,.au] [0,2,6,7,8,74,75,76] [1,3,4,5,6] hS hE trivial fun a w hS=>?_
 show Code.rounds _ _ _ 1 _ _
 rw [rounds_succ]
 refine PX.G [(.e 77 (.sc (.bool false)))] [] 7 [] [] [.au] [0,2,6,7,8,74,75,76,77] [1,3,4,5,6] hS hE trivial fun a w hS=>?_
 refine wp_seq_k fun K11 hK11=>?_
 refine PX.cond_s false hS (by kernel_rfl) (fun h12=>nomatch h12) (fun h12=>?_)
 refine wp_exit ?_
 refine hK7 _ _ ?_
 refine wp_seq_k fun K13 hK13=>?_
 rw [show (PX.updV ([]) 0 (.I z))=[(0,.I z)] from rfl] at hS
 refine PX.G [(.e 90 (.J 4)),(.e 91 (.J 0))] [] 7 [.q ((.sc (.I (shRf3bb33.length:Int)):PX.PV)=(.J 4))] [] [.au,.au,.nm (.J 4),.au] [0,2,6,7,8,90,91] [1,3,4,5,6] hS hE ⟨rfl,trivial⟩ fun a w hS=>?_
 refine wp_block ?_
 refine wp_loop_rounds 5 ?_
 rw [rounds_succ]
 refine PX.G [(.e 92 (.sc (.bool true)))] [] 7 [] [] [.au] [0,2,6,7,8,90,91,92] [1,3,4,5,6] hS hE trivial fun a w hS=>?_
 refine wp_seq_k fun K14 hK14=>?_
 refine PX.cond_s true hS (by kernel_rfl) (fun h15=>?_) (fun h15=>nomatch h15)
 refine wp_skip ?_
 refine hK14 _ _ ?_
 refine wp_seq_k fun K16 hK16=>?_
 refine wp_block ?_
 refine PX.G [(.e 11 (.J 0))] [] 7 [] [] [.au,.au] [0,2,6,7,8,11,90,91] [1,3,4,5,6] hS hE trivial fun a w hS=>?_
 refine PX.G [(.e 99 (.sc (.bool false)))] [(1,.box 116 [(.sc (.slice none 0 0)),(.sc (.slice none 0 0)),(.imm 1 ([[(.imm 7 shR2c9698)]])),(.sc (.slice none 0 0)),(.imm 4 shR0c7572),(.J 3),(.J 0),(.J 3),(.J 0),(.J 1),(.own 4 1 1),(.sc (.slice none 0 0)),(.J 0),(.sc (.bool false)),(.J 0),(.sc (.slice none 0 0))]),(3,.box 142 [(.J 0),.any,(.map 6),.any,.any,.any,.any,.any,.any,.any,.any]),(4,.row 138 1 false ([[(.ptr 3 0)]])),(6,.mp ([(0,.I z)]))] 7 [.q (PX.Con Try.prog 95 [(.ptr 1 0),(.ptr 3 0),(.agg [(.J 1),(.imm 11 shRf3bb33),(.J 4),(.J 1),(.J 0),(.imm 1 ([])),(.sc (.I (-1))),(.imm 1 ([])),(.sc (.I (-1))),(.imm 1 ([]))]),(.J 0)] [(1,.box 116 [(.sc (.slice none 0 0)),(.sc (.slice none 0 0)),(.imm 1 ([[(.imm 7 shR2c9698)]])),(.sc (.slice none 0 0)),(.imm 4 shR0c7572),(.J 3),(.J 0),(.J 3),(.J 0),(.J 1),(.own 4 1 1),(.sc (.slice none 0 0)),(.J 0),(.sc (.bool false)),(.J 0),(.sc (.slice none 0 0))]),(3,.box 142 [(.J 0),.any,(.map 6),.any,.any,.any,.any,.any,.any,.any,.any]),(6,.mp ([(0,.I z)])),(4,.row 138 1 false ([[(.ptr 3 0)]]))] 7 7 (.sc (.bool true)) [(1,some (.box 116 [(.sc (.slice none 0 0)),(.sc (.slice none 0 0)),(.imm 1 ([[(.imm 7 shR2c9698)]])),(.sc (.slice none 0 0)),(.imm 4 shR0c7572),(.J 3),(.J 0),(.J 3),(.J 0),(.J 1),(.own 4 1 1),(.sc (.slice none 0 0)),(.J 0),(.sc (.bool false)),(.J 0),(.sc (.slice none 0 0))])),(3,some (.box 142 [(.J 0),.any,(.map 6),.any,.any,.any,.any,.any,.any,.any,.any])),(6,some (.mp ([(0,.I z)]))),(4,some (.row 138 1 false ([[(.ptr 3 0)]])))])] [] [.au,.au,.au,.au,.cl [1,3,6,4] (.sc (.bool true)) [(1,some (.box 116 [(.sc (.slice none 0 0)),(.sc (.slice none 0 0)),(.imm 1 ([[(.imm 7 shR2c9698)]])),(.sc (.slice none 0 0)),(.imm 4 shR0c7572),(.J 3),(.J 0),(.J 3),(.J 0),(.J 1),(.own 4 1 1),(.sc (.slice none 0 0)),(.J 0),(.sc (.bool false)),(.J 0),(.sc (.slice none 0 0))])),(3,some (.box 142 [(.J 0),.any,(.map 6),.any,.any,.any,.any,.any,.any,.any,.any])),(6,some (.mp ([(0,.I z)]))),(4,some (.row 138 1 false ([[(.ptr 3 0)]])))] 7,.au] [0,2,6,7,8,90,91,99] [1,3,4,5,6] hS hE ⟨PX.con_as [(1,1),(3,2),(6,3),(4,4)] [(1,1),(2,3),(3,6),(4,4)] (sh95_1k0 z) (by kernel_rfl) (by kernel_rfl) (by kernel_rfl) (by kernel_rfl) (by kernel_rfl) (by kernel_rfl),trivial⟩ fun a w hS=>?_
 refine PX.cond_s false hS (by kernel_rfl) (fun h17=>nomatch h17) (fun h17=>?_)
 refine wp_skip ?_
 refine hK16 _ _ ?_
 refine PX.G0 [(.e 91 (.J 1))] [] 7 [] [] [.au,.au] [0,2,6,7,8,90,91] [1,3,4,5,6] hS hE trivial fun a w hS=>?_
 show Code.rounds _ _ _ 4 _ _
 rw [rounds_succ]
 refine PX.G [(.e 92 (.sc (.bool true)))] [] 7 [] [] [.au] [0,2,6,7,8,90,91,92] [1,3,4,5,6] hS hE trivial fun a w hS=>?_
 refine wp_seq_k fun K18 hK18=>?_
 refine PX.cond_s true hS (by kernel_rfl) (fun h19=>?_) (fun h19=>nomatch h19)
 refine wp_skip ?_
 refine hK18 _ _ ?_
 refine wp_seq_k fun K20 hK20=>?_
 refine wp_block ?_
 refine PX.G [(.e 11 (.J 1))] [] 7 [] [] [.au,.au] [0,2,6,7,8,11,90,91] [1,3,4,5,6] hS hE trivial fun a w hS=>?_
 refine PX.G [(.e 99 (.sc (.bool false)))] [(1,.box 116 [(.sc (.slice none 0 0)),(.sc (.slice none 0 0)),(.imm 1 ([[(.imm 7 shR2c9698)]])),(.sc (.slice none 0 0)),(.imm 4 shR0c7572),(.J 3),(.J 0),(.J 3),(.J 0),(.J 1),(.own 4 1 1),(.sc (.slice none 0 0)),(.J 0),(.sc (.bool false)),(.J 0),(.sc (.slice none 0 0))]),(3,.box 142 [(.J 0),.any,(.map 6),.any,.any,.any,.any,.any,.any,.any,.any]),(4,.row 138 1 false ([[(.ptr 3 0)]])),(6,.mp (PX.updV [(0,.I z)] 1 (.I (IntKind.i64.wrap (z+z)))))] 7 [.q (PX.Con Try.prog 95 [(.ptr 1 0),(.ptr 3 0),(.agg [(.J 1),(.imm 11 shRf3bb33),(.J 4),(.J 1),(.J 0),(.imm 1 ([])),(.sc (.I (-1))),(.imm 1 ([])),(.sc (.I (-1))),(.imm 1 ([]))]),(.J 1)] [(1,.box 116 [(.sc (.slice none 0 0)),(.sc (.slice none 0 0)),(.imm 1 ([[(.imm 7 shR2c9698)]])),(.sc (.slice none 0 0)),(.imm 4 shR0c7572),(.J 3),(.J 0),(.J 3),(.J 0),(.J 1),(.own 4 1 1),(.sc (.slice none 0 0)),(.J 0),(.sc (.bool false)),(.J 0),(.sc (.slice none 0 0))]),(3,.box 142 [(.J 0),.any,(.map 6),.any,.any,.any,.any,.any,.any,.any,.any]),(6,.mp ([(0,.I z)])),(4,.row 138 1 false ([[(.ptr 3 0)]]))] 7 7 (.sc (.bool true)) [(1,some (.box 116 [(.sc (.slice none 0 0)),(.sc (.slice none 0 0)),(.imm 1 ([[(.imm 7 shR2c9698)]])),(.sc (.slice none 0 0)),(.imm 4 shR0c7572),(.J 3),(.J 0),(.J 3),(.J 0),(.J 1),(.own 4 1 1),(.sc (.slice none 0 0)),(.J 0),(.sc (.bool false)),(.J 0),(.sc (.slice none 0 0))])),(3,some (.box 142 [(.J 0),.any,(.map 6),.any,.any,.any,.any,.any,.any,.any,.any])),(6,some (.mp (PX.updV [(0,.I z)] 1 (.I (IntKind.i64.wrap (z+z)))))),(4,some (.row 138 1 false ([[(.ptr 3 0)]])))])] [] [.au,.au,.au,.au,.cl [1,3,6,4] (.sc (.bool true)) [(1,some (.box 116 [(.sc (.slice none 0 0)),(.sc (.slice none 0 0)),(.imm 1 ([[(.imm 7 shR2c9698)]])),(.sc (.slice none 0 0)),(.imm 4 shR0c7572),(.J 3),(.J 0),(.J 3),(.J 0),(.J 1),(.own 4 1 1),(.sc (.slice none 0 0)),(.J 0),(.sc (.bool false)),(.J 0),(.sc (.slice none 0 0))])),(3,some (.box 142 [(.J 0),.any,(.map 6),.any,.any,.any,.any,.any,.any,.any,.any])),(6,some (.mp (PX.updV [(0,.I z)] 1 (.I (IntKind.i64.wrap (z+z)))))),(4,some (.row 138 1 false ([[(.ptr 3 0)]])))] 7,.au] [0,2,6,7,8,90,91,99] [1,3,4,5,6] hS hE ⟨PX.con_as [(1,1),(3,2),(6,3),(4,4)] [(1,1),(2,3),(3,6),(4,4)] (sh95_1k1 z) (by kernel_rfl) (by kernel_rfl) (by kernel_rfl) (by kernel_rfl) (by kernel_rfl) (by kernel_rfl),trivial⟩ fun a w hS=>?_
 refine PX.cond_s false hS (by kernel_rfl) (fun h21=>nomatch h21) (fun h21=>?_)
 refine wp_skip ?_
 refine hK20 _ _ ?_
 refine PX.G0 [(.e 91 (.J 2))] [] 7 [] [] [.au,.au] [0,2,6,7,8,90,91] [1,3,4,5,6] hS hE trivial fun a w hS=>?_
 show Code.rounds _ _ _ 3 _ _
 rw [rounds_succ]
 refine PX.G [(.e 92 (.sc (.bool true)))] [] 7 [] [] [.au] [0,2,6,7,8,90,91,92] [1,3,4,5,6] hS hE trivial fun a w hS=>?_
 refine wp_seq_k fun K22 hK22=>?_
 refine PX.cond_s true hS (by kernel_rfl) (fun h23=>?_) (fun h23=>nomatch h23)
 refine wp_skip ?_
 refine hK22 _ _ ?_
 refine wp_seq_k fun K24 hK24=>?_
 refine wp_block ?_
 refine PX.G [(.e 11 (.J 2))] [] 7 [] [] [.au,.au] [0,2,6,7,8,11,90,91] [1,3,4,5,6] hS hE trivial fun a w hS=>?_
 refine PX.G [(.e 99 (.sc (.bool false)))] [(1,.box 116 [(.sc (.slice none 0 0)),(.sc (.slice none 0 0)),(.imm 1 ([[(.imm 7 shR2c9698)]])),(.sc (.slice none 0 0)),(.imm 4 shR0c7572),(.J 3),(.J 0),(.J 3),(.J 0),(.J 1),(.own 4 1 1),(.sc (.slice none 0 0)),(.J 0),(.sc (.bool false)),(.J 0),(.imm 1 (shR79a67e z))]),(3,.box 142 [(.J 0),.any,(.map 6),.any,.any,.any,.any,.any,.any,.any,.any]),(4,.row 138 1 false ([[(.ptr 3 0)]])),(6,.mp (PX.updV [(0,.I z)] 1 (.I (IntKind.i64.wrap (z+z)))))] 7 [.q (PX.Con Try.prog 95 [(.ptr 1 0),(.ptr 3 0),(.agg [(.J 1),(.imm 11 shRf3bb33),(.J 4),(.J 1),(.J 0),(.imm 1 ([])),(.sc (.I (-1))),(.imm 1 ([])),(.sc (.I (-1))),(.imm 1 ([]))]),(.J 2)] [(1,.box 116 [(.sc (.slice none 0 0)),(.sc (.slice none 0 0)),(.imm 1 ([[(.imm 7 shR2c9698)]])),(.sc (.slice none 0 0)),(.imm 4 shR0c7572),(.J 3),(.J 0),(.J 3),(.J 0),(.J 1),(.own 4 1 1),(.sc (.slice none 0 0)),(.J 0),(.sc (.bool false)),(.J 0),(.sc (.slice none 0 0))]),(3,.box 142 [(.J 0),.any,(.map 6),.any,.any,.any,.any,.any,.any,.any,.any]),(6,.mp (PX.updV [(0,.I z)] 1 (.I (IntKind.i64.wrap (z+z))))),(4,.row 138 1 false ([[(.ptr 3 0)]]))] 7 7 (.sc (.bool true)) [(1,some (.box 116 [(.sc (.slice none 0 0)),(.sc (.slice none 0 0)),(.imm 1 ([[(.imm 7 shR2c9698)]])),(.sc (.slice none 0 0)),(.imm 4 shR0c7572),(.J 3),(.J 0),(.J 3),(.J 0),(.J 1),(.own 4 1 1),(.sc (.slice none 0 0)),(.J 0),(.sc (.bool false)),(.J 0),(.imm 1 (shR79a67e z))])),(3,some (.box 142 [(.J 0),.any,(.map 6),.any,.any,.any,.any,.any,.any,.any,.any])),(6,some (.mp (PX.updV [(0,.I z)] 1 (.I (IntKind.i64.wrap (z+z)))))),(4,some (.row 138 1 false ([[(.ptr 3 0)]])))])] [] [.au,.au,.au,.au,.cl [1,3,6,4] (.sc (.bool true)) [(1,some (.box 116 [(.sc (.slice none 0 0)),(.sc (.slice none 0 0)),(.imm 1 ([[(.imm 7 shR2c9698)]])),(.sc (.slice none 0 0)),(.imm 4 shR0c7572),(.J 3),(.J 0),(.J 3),(.J 0),(.J 1),(.own 4 1 1),(.sc (.slice none 0 0)),(.J 0),(.sc (.bool false)),(.J 0),(.imm 1 (shR79a67e z))])),(3,some (.box 142 [(.J 0),.any,(.map 6),.any,.any,.any,.any,.any,.any,.any,.any])),(6,some (.mp (PX.updV [(0,.I z)] 1 (.I (IntKind.i64.wrap (z+z)))))),(4,some (.row 138 1 false ([[(.ptr 3 0)]])))] 7,.au] [0,2,6,7,8,90,91,99] [1,3,4,5,6] hS hE ⟨PX.con_as [(1,1),(3,2),(6,3),(4,4)] [(1,1),(2,3),(3,6),(4,4)] (sh95_1k2 z) (by kernel_rfl) (by kernel_rfl) (by kernel_rfl) (by kernel_rfl) (by kernel_rfl) (by kernel_rfl),trivial⟩ fun a w hS=>?_
 refine PX.cond_s false hS (by kernel_rfl) (fun h25=>nomatch h25) (fun h25=>?_)
 refine wp_skip ?_
 refine hK24 _ _ ?_
 refine PX.G0 [(.e 91 (.J 3))] [] 7 [] [] [.au,.au] [0,2,6,7,8,90,91] [1,3,4,5,6] hS hE trivial fun a w hS=>?_
 show Code.rounds _ _ _ 2 _ _
 rw [rounds_succ]
 refine PX.G [(.e 92 (.sc (.bool true)))] [] 7 [] [] [.au] [0,2,6,7,8,90,91,92] [1,3,4,5,6] hS hE trivial fun a w hS=>?_
 refine wp_seq_k fun K26 hK26=>?_
 refine PX.cond_s true hS (by kernel_rfl) (fun h27=>?_) (fun h27=>nomatch h27)
 refine wp_skip ?_
 refine hK26 _ _ ?_
 refine wp_seq_k fun K28 hK28=>?_
 refine wp_block ?_
 refine PX.G [(.e 11 (.J 3))] [] 7 [] [] [.au,.au] [0,2,6,7,8,11,90,91] [1,3,4,5,6] hS hE trivial fun a w hS=>?_
 refine PX.G [(.e 99 (.sc (.bool false)))] [(1,.box 116 [(.sc (.slice none 0 0)),(.sc (.slice none 0 0)),(.imm 1 ([[(.imm 7 shR2c9698)]])),(.sc (.slice none 0 0)),(.imm 4 shR0c7572),(.J 3),(.J 0),(.J 3),(.J 1),(.J 0),(.own 4 1 1),(.imm 1 ([[(.imm 3 (shRe55e87 z))]])),(.J 0),(.sc (.bool false)),(.J 0),(.imm 1 (shR79a67e z))]),(3,.box 142 [(.J 0),.any,(.map 6),.any,.any,.any,.any,.any,.any,.any,.any]),(4,.row 138 1 false ([[(.ptr 3 0)]])),(6,.mp (PX.updV [(0,.I z)] 1 (.I (IntKind.i64.wrap (z+z)))))] 7 [.q (PX.Con Try.prog 95 [(.ptr 1 0),(.ptr 3 0),(.agg [(.J 1),(.imm 11 shRf3bb33),(.J 4),(.J 1),(.J 0),(.imm 1 ([])),(.sc (.I (-1))),(.imm 1 ([])),(.sc (.I (-1))),(.imm 1 ([]))]),(.J 3)] [(1,.box 116 [(.sc (.slice none 0 0)),(.sc (.slice none 0 0)),(.imm 1 ([[(.imm 7 shR2c9698)]])),(.sc (.slice none 0 0)),(.imm 4 shR0c7572),(.J 3),(.J 0),(.J 3),(.J 0),(.J 1),(.own 4 1 1),(.sc (.slice none 0 0)),(.J 0),(.sc (.bool false)),(.J 0),(.imm 1 (shR79a67e z))]),(3,.box 142 [(.J 0),.any,(.map 6),.any,.any,.any,.any,.any,.any,.any,.any]),(6,.mp (PX.updV [(0,.I z)] 1 (.I (IntKind.i64.wrap (z+z))))),(4,.row 138 1 false ([[(.ptr 3 0)]]))] 7 7 (.sc (.bool true)) [(1,some (.box 116 [(.sc (.slice none 0 0)),(.sc (.slice none 0 0)),(.imm 1 ([[(.imm 7 shR2c9698)]])),(.sc (.slice none 0 0)),(.imm 4 shR0c7572),(.J 3),(.J 0),(.J 3),(.J 1),(.J 0),(.own 4 1 1),(.imm 1 ([[(.imm 3 (shRe55e87 z))]])),(.J 0),(.sc (.bool false)),(.J 0),(.imm 1 (shR79a67e z))])),(3,some (.box 142 [(.J 0),.any,(.map 6),.any,.any,.any,.any,.any,.any,.any,.any])),(6,some (.mp (PX.updV [(0,.I z)] 1 (.I (IntKind.i64.wrap (z+z)))))),(4,some (.row 138 1 false ([[(.ptr 3 0)]])))])] [] [.au,.au,.au,.au,.cl [1,3,6,4] (.sc (.bool true)) [(1,some (.box 116 [(.sc (.slice none 0 0)),(.sc (.slice none 0 0)),(.imm 1 ([[(.imm 7 shR2c9698)]])),(.sc (.slice none 0 0)),(.imm 4 shR0c7572),(.J 3),(.J 0),(.J 3),(.J 1),(.J 0),(.own 4 1 1),(.imm 1 ([[(.imm 3 (shRe55e87 z))]])),(.J 0),(.sc (.bool false)),(.J 0),(.imm 1 (shR79a67e z))])),(3,some (.box 142 [(.J 0),.any,(.map 6),.any,.any,.any,.any,.any,.any,.any,.any])),(6,some (.mp (PX.updV [(0,.I z)] 1 (.I (IntKind.i64.wrap (z+z)))))),(4,some (.row 138 1 false ([[(.ptr 3 0)]])))] 7,.au] [0,2,6,7,8,90,91,99] [1,3,4,5,6] hS hE ⟨PX.con_as [(1,1),(3,2),(6,3),(4,4)] [(1,1),(2,3),(3,6),(4,4)] (sh95_1k3 z) (by kernel_rfl) (by kernel_rfl) (by kernel_rfl) (by kernel_rfl) (by kernel_rfl) (by kernel_rfl),trivial⟩ fun a w hS=>?_
 refine PX.cond_s false hS (by kernel_rfl) (fun h29=>nomatch h29) (fun h29=>?_)
 refine wp_skip ?_
 refine hK28 _ _ ?_
 refine PX.G0 [(.e 91 (.J 4))] [] 7 [] [] [.au,.au] [0,2,6,7,8,90,91] [1,3,4,5,6] hS hE trivial fun a w hS=>?_
 show Code.rounds _ _ _ 1 _ _
 rw [rounds_succ]
 refine PX.G [(.e 92 (.sc (.bool false)))] [] 7 [] [] [.au] [0,2,6,7,8,90,91,92] [1,3,4,5,6] hS hE trivial fun a w hS=>?_
 refine wp_seq_k fun K30 hK30=>?_
 refine PX.cond_s false hS (by kernel_rfl) (fun h31=>nomatch h31) (fun h31=>?_)
 refine wp_exit ?_
 refine hK13 _ _ ?_
 refine PX.G [(.e 12 (.ptr 7 0))] [(7,.box 60 [(.J 4),(.J 1),(.J 0),(.imm 1 ([])),(.sc (.I (-1))),(.imm 1 ([])),(.sc (.I (-1))),(.imm 1 ([]))])] 8 [] [] [.au,.au,.au,.au] [0,2,6,7,12] [1,3,4,6,7] hS hE trivial fun a w hS=>?_
 refine PX.G [(.e 104 (.J 4))] [] 8 [] [] [.au,.au] [0,2,6,7,12,104] [1,3,4,6,7] hS hE trivial fun a w hS=>?_
 refine wp_block ?_
 refine wp_seq_k fun K32 hK32=>?_
 refine PX.G [(.e 120 (.sc (.bool false)))] [] 8 [] [] [.au,.au] [0,2,6,7,12,104,120] [1,3,4,6,7] hS hE trivial fun a w hS=>?_
 refine PX.cond_s false hS (by kernel_rfl) (fun h33=>nomatch h33) (fun h33=>?_)
 refine PX.G0 [(.e 120 (.sc (.bool false)))] [] 8 [] [] [.au,.au] [0,2,6,7,12,104,120] [1,3,4,6,7] hS hE trivial fun a w hS=>?_
 refine hK32 _ _ ?_
 refine PX.cond_s false hS (by kernel_rfl) (fun h34=>nomatch h34) (fun h34=>?_)
 refine wp_seq_k fun K35 hK35=>?_
 refine PX.G [(.e 148 (.sc (.bool false)))] [] 8 [] [] [.au,.au] [0,2,6,7,12,104,148] [1,3,4,6,7] hS hE trivial fun a w hS=>?_
 refine PX.cond_s false hS (by kernel_rfl) (fun h36=>nomatch h36) (fun h36=>?_)
 refine PX.G0 [(.e 148 (.sc (.bool false)))] [] 8 [] [] [.au,.au] [0,2,6,7,12,148] [1,3,4,6,7] hS hE trivial fun a w hS=>?_
 refine hK35 _ _ ?_
 refine PX.cond_s false hS (by kernel_rfl) (fun h37=>nomatch h37) (fun h37=>?_)
 refine PX.D0 [(.e 2 (.sc (.slice none 0 0))),(.e 6 (.sc (.I (-1))))] [(1,.box 116 [(.sc (.slice none 0 0)),(.sc (.slice none 0 0)),(.imm 1 ([[(.imm 7 shR2c9698)]])),(.sc (.slice none 0 0)),(.imm 4 shR0c7572),(.J 3),(.J 0),(.J 3),(.J 1),(.J 0),.any,(.imm 1 ([[(.imm 3 (shRe55e87 z))]])),(.J 0),(.sc (.bool false)),(.sc (.I (IntKind.i64.wrap (z+z)))),(.imm 1 (shR79a67e z))])] 8 [.q ((.sc ((PX.findV (PX.updV [(0,.I z)] 1 (.I (IntKind.i64.wrap (z+z)))) 1).getD (.I 0)):PX.PV)=(.sc (.I (IntKind.i64.wrap (z+z))))),.q (PX.Con Try.prog 97 [(.ptr 1 0),(.sc (.I (IntKind.i64.wrap (z+z)))),(.sc (.bool false))] [(1,.box 116 [(.sc (.slice none 0 0)),(.sc (.slice none 0 0)),(.imm 1 ([[(.imm 7 shR2c9698)]])),(.sc (.slice none 0 0)),(.imm 4 shR0c7572),(.J 3),(.J 0),(.J 3),(.J 1),(.J 0),(.own 4 1 1),(.imm 1 ([[(.imm 3 (shRe55e87 z))]])),(.J 0),(.sc (.bool false)),(.J 0),(.imm 1 (shR79a67e z))]),(3,.box 142 [(.J 0),.any,(.map 6),.any,.any,.any,.any,.any,.any,.any,.any]),(6,.mp (PX.updV [(0,.I z)] 1 (.I (IntKind.i64.wrap (z+z))))),(4,.row 138 1 false ([[(.ptr 3 0)]]))] 8 8 (.tup [(.sc (.I (-1))),(.sc (.slice none 0 0))]) [(1,some (.box 116 [(.sc (.slice none 0 0)),(.sc (.slice none 0 0)),(.imm 1 ([[(.imm 7 shR2c9698)]])),(.sc (.slice none 0 0)),(.imm 4 shR0c7572),(.J 3),(.J 0),(.J 3),(.J 1),(.J 0),.any,(.imm 1 ([[(.imm 3 (shRe55e87 z))]])),(.J 0),(.sc (.bool false)),(.sc (.I (IntKind.i64.wrap (z+z)))),(.imm 1 (shR79a67e z))])),(3,none),(6,none),(4,none)])] [] [.au,.au,.au,.au,.au,.au,.au,.nm (.sc (.I (IntKind.i64.wrap (z+z)))),.au,.au,.au,.cl [1,3,6,4] (.tup [(.sc (.I (-1))),(.sc (.slice none 0 0))]) [(1,some (.box 116 [(.sc (.slice none 0 0)),(.sc (.slice none 0 0)),(.imm 1 ([[(.imm 7 shR2c9698)]])),(.sc (.slice none 0 0)),(.imm 4 shR0c7572),(.J 3),(.J 0),(.J 3),(.J 1),(.J 0),.any,(.imm 1 ([[(.imm 3 (shRe55e87 z))]])),(.J 0),(.sc (.bool false)),(.sc (.I (IntKind.i64.wrap (z+z)))),(.imm 1 (shR79a67e z))])),(3,none),(6,none),(4,none)] 8,.au,.au,.au,.au,.au] [0,2,6] [1] hS mixed hE ⟨rfl,PX.con_as [(1,1),(3,2),(6,3),(4,4)] [(1,1),(2,3),(3,6),(4,4)] (sh97_1 z) (by kernel_rfl) (by kernel_rfl) (by kernel_rfl) (by kernel_rfl) (by kernel_rfl) (by kernel_rfl),trivial⟩ fun a w hS=>?_
 show Code.rounds _ _ _ 1 _ _
 rw [rounds_succ]
 refine wp_seq_k fun K38 hK38=>?_
 refine PX.G [(.e 20 (.sc (.bool false)))] [] 8 [] [] [.au,.au] [0,2,6,20] [1] hS hE trivial fun a w hS=>?_
 refine PX.cond_s false hS (by kernel_rfl) (fun h39=>nomatch h39) (fun h39=>?_)
 refine wp_exit ?_
 replace hS:=PX.recell (id:=1) (j:=8) .any hS rfl rfl rfl (PX.any_of rfl)
 replace hS:=PX.recell (id:=1) (j:=9) .any hS rfl rfl rfl (PX.any_of rfl)
 try simp only [Exit.then,Exit.inBlock,Nat.reduceEqDiff,↓reduceIte]
 exact PX.ret_s hS hE (by kernel_rfl) (by kernel_rfl) (by kernel_rfl) (by first | exact .inl rfl | exact .inr rfl)

set_option maxHeartbeats 1000000 in
theorem sh60_1 (z:Int):PX.Con Try.prog 60 [(.agg [(.imm 4 shR0c7572)])] [] 1 100000 (.J 0) []:=by
 refine PX.con_intro [(.agg [(.imm 4 shR0c7572)])] 103 Try.func60 rfl rfl (by kernel_rfl) (by kernel_rfl) ?_
 intro E a hE hS
 generalize E.w0=w at hS ⊢
 have mix:=mixed
 refine PX.G [(.e 1 (.ptr 1 0))] [(1,.box 51 [(.imm 4 shR0c7572)])] 2 [] [] [.au,.au] [1] [1] hS hE trivial fun a w hS=>?_
 refine wp_seq_k fun K1 hK1=>?_
 refine PX.G [(.e 16 (.sc (.bool false)))] [] 2 [.q ((.sc (.I (shR0c7572.length:Int)):PX.PV)=(.J 1))] [] [.au,.au,.nm (.J 1),.au] [1,16] [1] hS hE ⟨rfl,trivial⟩ fun a w hS=>?_
 refine PX.cond_s false hS (by kernel_rfl) (fun h2=>nomatch h2) (fun h2=>?_)
 refine wp_skip ?_
 refine hK1 _ _ ?_
 refine wp_seq_k fun K3 hK3=>?_
 refine PX.G [(.e 18 (.imm 4 shR0c7572)),(.e 19 (.J 1)),(.e 20 (.J 0))] [] 2 [.q ((.sc (.I (shR0c7572.length:Int)):PX.PV)=(.J 1))] [] [.au,.au,.nm (.J 1),.au] [1,18,19,20] [1] hS hE ⟨rfl,trivial⟩ fun a w hS=>?_
 refine wp_block ?_
 refine wp_loop_rounds 2 ?_
 rw [rounds_succ]
 refine PX.G [(.e 21 (.sc (.bool true)))] [] 2 [] [] [.au] [1,18,19,20,21] [1] hS hE trivial fun a w hS=>?_
 refine wp_seq_k fun K4 hK4=>?_
 refine PX.cond_s true hS (by kernel_rfl) (fun h5=>?_) (fun h5=>nomatch h5)
 refine wp_skip ?_
 refine hK4 _ _ ?_
 refine wp_seq_k fun K6 hK6=>?_
 refine wp_block ?_
 refine PX.G [(.e 4 (.ptr 2 0))] [(2,.box 26 [(.J 1),(.imm 10 shRf7d06f),(.imm 3 shR8cf714),(.imm 3 ([]))])] 3 [.q (0=((0:Nat):Int)),.q (shR0c7572[0]?=some ([(.J 1),(.imm 10 shRf7d06f),(.imm 3 shR8cf714),(.imm 3 ([]))]))] [] [.ix 0 ([(.J 1),(.imm 10 shRf7d06f),(.imm 3 shR8cf714),(.imm 3 ([]))]),.au,.au,.au] [1,4,18,19,20] [1,2] hS hE ⟨rfl,rfl,trivial⟩ fun a w hS=>?_
 refine PX.G [(.e 5 (.sc (.I (R.check shC1 (totW shC1.blocks)))))] [] 3 [.q (PX.Con Try.prog 18 [(.agg [(.J 1),(.imm 10 shRf7d06f),(.imm 3 shR8cf714),(.imm 3 ([]))])] [] 3 3 (.sc (.I (R.check shC1 (totW shC1.blocks)))) [])] [] [.au,.cl [] (.sc (.I (R.check shC1 (totW shC1.blocks)))) [] 3,.au] [1,5,18,19,20] [1] hS hE ⟨con_rcheck codeI_sh1,trivial⟩ fun a w hS=>?_
 replace hS:=PX.sl [1,5,18,19,20] (PX.reslot (t:=5) (.sc (.I 0)) hS rfl (fun _ _ _ _ h=>(show PX.PV.sc (.I (R.check shC1 (totW shC1.blocks)))=.sc (.I 0) from by rw [show R.check shC1 (totW shC1.blocks)=0 from by kernel_rfl]) ▸ h))
 refine PX.G [(.e 27 (.sc (.bool false)))] [] 3 [] [] [.au,.au] [1,5,18,19,20,27] [1] hS hE trivial fun a w hS=>?_
 refine PX.cond_s false hS (by kernel_rfl) (fun h7=>nomatch h7) (fun h7=>?_)
 refine wp_skip ?_
 refine hK6 _ _ ?_
 refine PX.G0 [(.e 20 (.J 1))] [] 3 [] [] [.au,.au] [1,18,19,20] [1] hS hE trivial fun a w hS=>?_
 show Code.rounds _ _ _ 1 _ _
 rw [rounds_succ]
 refine PX.G [(.e 21 (.sc (.bool false)))] [] 3 [] [] [.au] [1,18,19,20,21] [1] hS hE trivial fun a w hS=>?_
 refine wp_seq_k fun K8 hK8=>?_
 refine PX.cond_s false hS (by kernel_rfl) (fun h9=>nomatch h9) (fun h9=>?_)
 refine wp_exit ?_
 refine hK3 _ _ ?_
 refine wp_seq_k fun K10 hK10=>?_
 refine PX.G [(.e 31 (.imm 4 shR0c7572)),(.e 32 (.J 1)),(.e 33 (.J 0))] [] 3 [.q ((.sc (.I (shR0c7572.length:Int)):PX.PV)=(.J 1))] [] [.au,.au,.nm (.J 1),.au] [1,31,32,33] [1] hS hE ⟨rfl,trivial⟩ fun a w hS=>?_
 refine wp_block ?_
 refine wp_loop_rounds 2 ?_
 rw [rounds_succ]
 refine PX.G [(.e 34 (.sc (.bool true)))] [] 3 [] [] [.au] [1,31,32,33,34] [1] hS hE trivial fun a w hS=>?_
 refine wp_seq_k fun K11 hK11=>?_
 refine PX.cond_s true hS (by kernel_rfl) (fun h12=>?_) (fun h12=>nomatch h12)
 refine wp_skip ?_
 refine hK11 _ _ ?_
 refine wp_seq_k fun K13 hK13=>?_
 refine wp_block ?_
 refine PX.G [(.e 6 (.J 0)),(.e 7 (.ptr 3 0))] [(3,.box 26 [(.J 1),(.imm 10 shRf7d06f),(.imm 3 shR8cf714),(.imm 3 ([]))])] 4 [.q (0=((0:Nat):Int)),.q (shR0c7572[0]?=some ([(.J 1),(.imm 10 shRf7d06f),(.imm 3 shR8cf714),(.imm 3 ([]))]))] [] [.au,.ix 0 ([(.J 1),(.imm 10 shRf7d06f),(.imm 3 shR8cf714),(.imm 3 ([]))]),.au,.au,.au,.au] [1,6,7,31,32,33] [1,3] hS hE ⟨rfl,rfl,trivial⟩ fun a w hS=>?_
 refine wp_seq_k fun K14 hK14=>?_
 refine PX.G [(.e 39 (.imm 3 shR8cf714)),(.e 40 (.J 1)),(.e 41 (.J 0))] [] 4 [.q ((.sc (.I (shR8cf714.length:Int)):PX.PV)=(.J 1))] [] [.au,.au,.nm (.J 1),.au] [1,6,7,31,32,33,39,40,41] [1,3] hS hE ⟨rfl,trivial⟩ fun a w hS=>?_
 refine wp_block ?_
 refine wp_loop_rounds 2 ?_
 rw [rounds_succ]
 refine PX.G [(.e 42 (.sc (.bool true)))] [] 4 [] [] [.au] [1,6,7,31,32,33,39,40,41,42] [1,3] hS hE trivial fun a w hS=>?_
 refine wp_seq_k fun K15 hK15=>?_
 refine PX.cond_s true hS (by kernel_rfl) (fun h16=>?_) (fun h16=>nomatch h16)
 refine wp_skip ?_
 refine hK15 _ _ ?_
 refine wp_seq_k fun K17 hK17=>?_
 refine wp_block ?_
 refine PX.G [(.e 8 (.J 0)),(.e 9 (.ptr 4 0))] [(4,.box 99 [(.sc (.I (-1))),(.sc (.I (-1))),(.J 0)])] 5 [.q (0=((0:Nat):Int)),.q (shR8cf714[0]?=some ([(.sc (.I (-1))),(.sc (.I (-1))),(.J 0)]))] [] [.au,.ix 0 ([(.sc (.I (-1))),(.sc (.I (-1))),(.J 0)]),.au,.au,.au,.au] [1,6,7,8,9,31,32,33,39,40,41] [1,3,4] hS hE ⟨rfl,rfl,trivial⟩ fun a w hS=>?_
 refine PX.G [(.e 53 (.J 0)),(.e 54 (.sc (.bool true))),(.e 55 (.sc (.bool true))),(.e 56 (.ptr 4 2)),(.e 57 (.J 0)),(.e 58 (.J 0)),(.e 59 (.sc (.bool false))),(.e 60 (.sc (.bool false))),(.e 61 (.sc (.bool false)))] [] 5 [.q ((.sc (.I (shR0c7572.length:Int)):PX.PV)=(.J 1))] [] [.au,.au,.au,.au,.nm (.J 1),.au,.au,.au,.au,.au,.au,.au,.au,.au,.au,.au] [1,6,7,31,32,33,39,40,41,53,54,55,56,57,58,59,60,61] [1,3,4] hS hE ⟨rfl,trivial⟩ fun a w hS=>?_
 refine PX.cond_s false hS (by kernel_rfl) (fun h18=>nomatch h18) (fun h18=>?_)
 refine wp_skip ?_
 refine hK17 _ _ ?_
 refine PX.G0 [(.e 41 (.J 1))] [] 5 [] [] [.au,.au] [1,6,7,31,32,33,39,40,41,53,54,55,56,57,58,59,60] [1,3,4] hS hE trivial fun a w hS=>?_
 show Code.rounds _ _ _ 1 _ _
 rw [rounds_succ]
 refine PX.G [(.e 42 (.sc (.bool false)))] [] 5 [] [] [.au] [1,6,7,31,32,33,39,40,41,42,53,54,55,56,57,58,59,60] [1,3,4] hS hE trivial fun a w hS=>?_
 refine wp_seq_k fun K19 hK19=>?_
 refine PX.cond_s false hS (by kernel_rfl) (fun h20=>nomatch h20) (fun h20=>?_)
 refine wp_exit ?_
 refine hK14 _ _ ?_
 refine PX.G [(.e 64 (.imm 10 shRf7d06f)),(.e 65 (.J 1)),(.e 66 (.J 0))] [] 5 [.q ((.sc (.I (shRf7d06f.length:Int)):PX.PV)=(.J 1))] [] [.au,.au,.nm (.J 1),.au] [1,31,32,33,53,54,55,56,57,58,59,60,64,65,66] [1,4] hS hE ⟨rfl,trivial⟩ fun a w hS=>?_
 refine wp_block ?_
 refine wp_loop_rounds 2 ?_
 rw [rounds_succ]
 refine PX.G [(.e 67 (.sc (.bool true)))] [] 5 [] [] [.au] [1,31,32,33,53,54,55,56,57,58,59,60,64,65,66,67] [1,4] hS hE trivial fun a w hS=>?_
 refine wp_seq_k fun K21 hK21=>?_
 refine PX.cond_s true hS (by kernel_rfl) (fun h22=>?_) (fun h22=>nomatch h22)
 refine wp_skip ?_
 refine hK21 _ _ ?_
 refine wp_seq_k fun K23 hK23=>?_
 refine wp_block ?_
 refine PX.G [(.e 11 (.ptr 5 0))] [(5,.box 62 [(.J 1),(.imm 11 shRf3bb33),(.J 4),(.J 1),(.J 0),(.imm 1 ([])),(.sc (.I (-1))),(.imm 1 ([])),(.sc (.I (-1))),(.imm 1 ([]))])] 6 [.q (0=((0:Nat):Int)),.q (shRf7d06f[0]?=some ([(.J 1),(.imm 11 shRf3bb33),(.J 4),(.J 1),(.J 0),(.imm 1 ([])),(.sc (.I (-1))),(.imm 1 ([])),(.sc (.I (-1))),(.imm 1 ([]))]))] [] [.ix 0 ([(.J 1),(.imm 11 shRf3bb33),(.J 4),(.J 1),(.J 0),(.imm 1 ([])),(.sc (.I (-1))),(.imm 1 ([])),(.sc (.I (-1))),(.imm 1 ([]))]),.au,.au,.au] [1,11,31,32,33,53,54,55,56,57,58,59,60,64,65,66] [1,4,5] hS hE ⟨rfl,rfl,trivial⟩ fun a w hS=>?_
 refine PX.G [(.e 12 (.ptr 6 0))] [(6,.box 60 [(.J 4),(.J 1),(.J 0),(.imm 1 ([])),(.sc (.I (-1))),(.imm 1 ([])),(.sc (.I (-1))),(.imm 1 ([]))])] 7 [] [] [.au,.au,.au,.au] [1,12,31,32,33,53,54,55,56,57,58,59,60,64,65,66] [1,4,6] hS hE trivial fun a w hS=>?_
 refine PX.D [(.e 76 (.ptr 6 0)),(.e 77 (.J 4)),(.e 78 (.sc (.bool false))),(.e 100 (.sc (.bool false)))] [] 7 [.q (SX.pv [(8,false)] [(8,true)]=true→PX.AllOb [.q ((.sc (.I ((([]:List (List PX.PV)).length:Nat):Int)):PX.PV)=(.J 0))]),.q (SX.pv [(8,false)] [(8,true)]=true→PX.AllOb [.q (0=((0:Nat):Int)),.q (shR0c7572[0]?=some ([(.J 1),(.imm 10 shRf7d06f),(.imm 3 shR8cf714),(.imm 3 ([]))]))])] [(8,false)] [.au,.au,.au,.au,.au,.au,.au,.au,.au,.dd,.dd,.dd,.dd,.dd,.dd,.dd,.au,.au,.nm (.J 0),.au,.au,.au,.au,.ix 0 ([(.J 1),(.imm 10 shRf7d06f),(.imm 3 shR8cf714),(.imm 3 ([]))]),.au,.au,.au,.dd,.au] [1,31,32,33,53,54,55,56,57,58,59,60,64,65,66,76,77,78,100] [1,4,6] hS mixed hE ⟨fun hg=>⟨rfl,trivial⟩,fun hg=>⟨rfl,rfl,trivial⟩,trivial⟩ fun a w hS=>?_
 refine PX.cond_s false hS (by kernel_rfl) (fun h24=>nomatch h24) (fun h24=>?_)
 refine wp_skip ?_
 refine hK23 _ _ ?_
 refine PX.G0 [(.e 66 (.J 1))] [] 7 [] [] [.au,.au] [1,31,32,33,53,54,55,56,57,58,59,60,64,65,66,76,77,78] [1,4,6] hS hE trivial fun a w hS=>?_
 show Code.rounds _ _ _ 1 _ _
 rw [rounds_succ]
 refine PX.G [(.e 67 (.sc (.bool false)))] [] 7 [] [] [.au] [1,31,32,33,53,54,55,56,57,58,59,60,64,65,66,67,76,77,78] [1,4,6] hS hE trivial fun a w hS=>?_
 refine wp_seq_k fun K25 hK25=>?_
 refine PX.cond_s false hS (by kernel_rfl) (fun h26=>nomatch h26) (fun h26=>?_)
 refine wp_exit ?_
 refine hK13 _ _ ?_
 refine PX.G0 [(.e 33 (.J 1))] [] 7 [] [] [.au,.au] [1,31,32,33,53,54,55,56,57,58,59,60,76,77,78] [1,4,6] hS hE trivial fun a w hS=>?_
 show Code.rounds _ _ _ 1 _ _
 rw [rounds_succ]
 refine PX.G [(.e 34 (.sc (.bool false)))] [] 7 [] [] [.au] [1,31,32,33,34,53,54,55,56,57,58,59,60,76,77,78] [1,4,6] hS hE trivial fun a w hS=>?_
 refine wp_seq_k fun K27 hK27=>?_
 refine PX.cond_s false hS (by kernel_rfl) (fun h28=>nomatch h28) (fun h28=>?_)
 refine wp_exit ?_
 refine hK10 _ _ ?_
 refine PX.G [(.e 2 (.J 0))] [] 7 [] [] [.au] [2] [] hS hE trivial fun a w hS=>?_
 refine wp_ret ?_
 try simp only [Exit.then,Exit.inBlock,Nat.reduceEqDiff,↓reduceIte]
 exact PX.ret_s hS hE (by kernel_rfl) (by kernel_rfl) (by kernel_rfl) (.inl rfl)

set_option maxHeartbeats 1000000 in
theorem sh20_1 (z:Int):PX.Con Try.prog 20 [(.agg [(.sc (.slice none 0 0)),(.sc (.slice none 0 0)),(.imm 1 ([[(.imm 7 shR2c9698)]])),(.sc (.slice none 0 0))]),(.agg [(.imm 4 shR0c7572)]),(.J 0),(.imm 1 ([[(.J z)]])),(.J 3),(.J 0),(.J 3)] [] 1 100000 (.tup [(.imm 1 ([[(.imm 3 (shRe55e87 z))]])),(.agg [(.J 0),(.sc (.bool false)),(.sc (.I (IntKind.i64.wrap (z+z)))),(.imm 1 (shR79a67e z))])]) []:=by
 refine PX.con_intro [(.agg [(.sc (.slice none 0 0)),(.sc (.slice none 0 0)),(.imm 1 ([[(.imm 7 shR2c9698)]])),(.sc (.slice none 0 0))]),(.agg [(.imm 4 shR0c7572)]),(.J 0),(.imm 1 ([[(.J z)]])),(.J 3),(.J 0),(.J 3)] 86 Try.func20 rfl rfl (by kernel_rfl) (by kernel_rfl) ?_
 intro E a hE hS
 generalize E.w0=w at hS ⊢
 have mix:=mixed
 refine PX.G [(.e 7 (.ptr 1 0)),(.e 8 (.ptr 2 0)),(.e 15 (.ptr 3 0))] [(1,.box 47 [(.sc (.slice none 0 0)),(.sc (.slice none 0 0)),(.imm 1 ([[(.imm 7 shR2c9698)]])),(.sc (.slice none 0 0))]),(2,.box 51 [(.imm 4 shR0c7572)]),(3,.box 37 [(.J 0),(.sc (.bool false)),(.J 0),(.sc (.slice none 0 0))])] 4 [] [] [.au,.au,.au,.au] [2,3,4,5,6,7,8,15] [1,2,3] hS hE trivial fun a w hS=>?_
 refine PX.G [(.e 16 (.J 0))] [] 4 [.q (PX.Con Try.prog 60 [(.agg [(.imm 4 shR0c7572)])] [] 4 4 (.J 0) [])] [] [.au,.cl [] (.J 0) [] 4,.au] [2,3,4,5,6,7,8,15,16] [1,2,3] hS hE ⟨PX.con_any (sh60_1 z),trivial⟩ fun a w hS=>?_
 refine wp_seq_k fun K1 hK1=>?_
 refine PX.G [(.e 21 (.sc (.bool false)))] [] 4 [] [] [.au,.au] [2,3,4,5,6,7,8,15,16,21] [1,2,3] hS hE trivial fun a w hS=>?_
 refine PX.cond_s false hS (by kernel_rfl) (fun h2=>nomatch h2) (fun h2=>?_)
 refine wp_skip ?_
 refine hK1 _ _ ?_
 refine wp_seq_k fun K3 hK3=>?_
 refine PX.G [(.e 63 (.sc (.bool false)))] [] 4 [.q ((.sc (.I (shR0c7572.length:Int)):PX.PV)=(.J 1)),.q ((.sc (.I ((([[(.J z)]]:List (List PX.PV)).length:Nat):Int)):PX.PV)=(.J 1)),.q (0=((0:Nat):Int)),.q (shR0c7572[0]?=some ([(.J 1),(.imm 10 shRf7d06f),(.imm 3 shR8cf714),(.imm 3 ([]))]))] [] [.au,.au,.au,.au,.au,.au,.nm (.J 1),.au,.au,.au,.au,.nm (.J 1),.au,.au,.au,.ix 0 ([(.J 1),(.imm 10 shRf7d06f),(.imm 3 shR8cf714),(.imm 3 ([]))]),.au,.au,.au,.au,.au,.au,.au,.au,.au,.au,.au,.au,.au,.au,.au,.au,.au,.au,.au,.au,.au,.au,.au,.au] [2,3,4,5,6,7,8,15,63] [1,2,3] hS hE ⟨rfl,rfl,rfl,rfl,trivial⟩ fun a w hS=>?_
 refine PX.cond_s false hS (by kernel_rfl) (fun h4=>nomatch h4) (fun h4=>?_)
 refine wp_skip ?_
 refine hK3 _ _ ?_
 refine PX.G [(.e 17 (.ptr 4 0))] [(4,.box 116 [(.sc (.slice none 0 0)),(.sc (.slice none 0 0)),(.imm 1 ([[(.imm 7 shR2c9698)]])),(.sc (.slice none 0 0)),(.imm 4 shR0c7572),(.J 3),(.J 0),(.J 3),(.J 0),(.J 0),(.sc (.slice none 0 0)),(.sc (.slice none 0 0)),(.J 0),(.sc (.bool false)),(.J 0),(.sc (.slice none 0 0))])] 5 [] [] [.au,.au,.au,.au,.au,.au,.au,.au] [2,3,15,17] [3,4] hS hE trivial fun a w hS=>?_
 refine PX.G [] [(4,.box 116 [(.sc (.slice none 0 0)),(.sc (.slice none 0 0)),(.imm 1 ([[(.imm 7 shR2c9698)]])),(.sc (.slice none 0 0)),(.imm 4 shR0c7572),(.J 3),(.J 0),(.J 3),.any,.any,.any,(.imm 1 ([[(.imm 3 (shRe55e87 z))]])),(.J 0),(.sc (.bool false)),(.sc (.I (IntKind.i64.wrap (z+z)))),(.imm 1 (shR79a67e z))])] 7 [.b (lenIs 0 ([])),.b true,.b (Nat.ble (0+([[(.J z)]]:List (List PX.PV)).length) 1000000000),.q (PX.Con Try.prog 61 [(.ptr 4 0),(.J 0),(.own 6 1 (0+([[(.J z)]]:List (List PX.PV)).length))] [(4,.box 116 [(.sc (.slice none 0 0)),(.sc (.slice none 0 0)),(.imm 1 ([[(.imm 7 shR2c9698)]])),(.sc (.slice none 0 0)),(.imm 4 shR0c7572),(.J 3),(.J 0),(.J 3),(.J 0),(.J 0),(.sc (.slice none 0 0)),(.sc (.slice none 0 0)),(.J 0),(.sc (.bool false)),(.J 0),(.sc (.slice none 0 0))]),(6,.row 3 1 true ([[(.J z)]]))] 7 7 (.tup []) [(4,some (.box 116 [(.sc (.slice none 0 0)),(.sc (.slice none 0 0)),(.imm 1 ([[(.imm 7 shR2c9698)]])),(.sc (.slice none 0 0)),(.imm 4 shR0c7572),(.J 3),(.J 0),(.J 3),.any,.any,.any,(.imm 1 ([[(.imm 3 (shRe55e87 z))]])),(.J 0),(.sc (.bool false)),(.sc (.I (IntKind.i64.wrap (z+z)))),(.imm 1 (shR79a67e z))])),(6,none)])] [] [.au,.au,.au,.au,.au,.cl [4,6] (.tup []) [(4,some (.box 116 [(.sc (.slice none 0 0)),(.sc (.slice none 0 0)),(.imm 1 ([[(.imm 7 shR2c9698)]])),(.sc (.slice none 0 0)),(.imm 4 shR0c7572),(.J 3),(.J 0),(.J 3),.any,.any,.any,(.imm 1 ([[(.imm 3 (shRe55e87 z))]])),(.J 0),(.sc (.bool false)),(.sc (.I (IntKind.i64.wrap (z+z)))),(.imm 1 (shR79a67e z))])),(6,none)] 7] [15,17] [3,4] hS hE ⟨rfl,rfl,rfl,PX.con_as [(4,1),(6,2)] [(1,4),(2,6)] (sh61_1 z) (by kernel_rfl) (by kernel_rfl) (by kernel_rfl) (by kernel_rfl) (by kernel_rfl) (by kernel_rfl),trivial⟩ fun a w hS=>?_
 refine PX.D [(.e 14 (.imm 1 ([[(.imm 3 (shRe55e87 z))]])))] [(3,.box 37 [(.J 0),(.sc (.bool false)),(.sc (.I (IntKind.i64.wrap (z+z)))),(.imm 1 (shR79a67e z))])] 7 [] [] [.au,.au,.au,.au,.au,.au,.au,.au,.au,.au] [14,15] [3] hS mixed hE trivial fun a w hS=>?_
 refine wp_ret ?_
 try simp only [Exit.then,Exit.inBlock,Nat.reduceEqDiff,↓reduceIte]
 exact PX.ret_s hS hE (by kernel_rfl) (by kernel_rfl) (by kernel_rfl) (.inl rfl)
end Go.Proofs.Ytlkcidmmpeebeaa
