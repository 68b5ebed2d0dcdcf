/- Proved: known of debuggerlaw14 -/
import Derived.Test.YtlkcidmmpeebeaaPDown
set_option linter.unusedVariables false
set_option linter.unusedSimpArgs false
namespace Go.Proofs.Ytlkcidmmpeebeaa
open Go.RowKit Go.PX
set_option maxRecDepth 100000
def tlD (c:CodeD):CodeD:=if P.check c (totW c.blocks)=0 then tailD c else c
theorem con_tail {lo top:Nat} {c:CodeD} (hi:CodeI c):PX.Con Try.prog 15 [codeP c] [] lo top (codeP (tlD c)) []:=by
 have h:=tail_con c hi
 have e:(if P.check c (totW c.blocks)=0 then codeP (tailD c) else codeP c)=codeP (tlD c):=by unfold tlD; split <;> rfl
 rw [e] at h; exact PX.con_any h
theorem codeI_tl {c:CodeD} (hi:CodeI c):CodeI (tlD c):=by
 unfold tlD
 split
 ·refine ⟨hi.1,fun b hb=>?_,hi.2.2⟩
  obtain ⟨y,hy,rfl⟩:=List.mem_map.1 hb
  have h:=hi.2.1 y hy
  unfold tailB
  split
  ·obtain ⟨⟨h1,h2,h3,h4,h5,h6⟩,h7,h8,_,_,h9⟩:=h
   exact ⟨⟨h1,by simp [tailY,tailT,I64],by simp [tailY,tailT,I64],h4,by simp [tailY,tailT,I64],by simp [tailY,tailT,I64]⟩,h7,h8,by simp [tailY,tailT],by simp [tailY,tailT],h9⟩
  ·exact h
 ·exact hi
def tF:CodeD:={ params:=1,blocks:=[downA,tailY (downB []),retD 1 0 [⟨20,0,0,0,4,0,0,0,0,0,0⟩],retD 1 1 [⟨1,1,0,0,5,0,0,0,0,0,0⟩]],contexts:=[(-1,-1,0)],objects:=[] }
theorem tl_F:tlD downF=tF:=by kernel_rfl
theorem tl_T:tlD downT=downT:=by kernel_rfl
theorem blkI_of (b:BlockD) (h:(decide (-9223372036854775808≤b.params)&&decide (b.params≤9223372036854775807)&&decide (-9223372036854775808≤b.term.kind)&&decide (b.term.kind≤9223372036854775807)&&decide (-9223372036854775808≤b.term.a)&&decide (b.term.a≤9223372036854775807)&&decide (-9223372036854775808≤b.term.n)&&decide (b.term.n≤9223372036854775807)&&decide (-9223372036854775808≤b.term.b0)&&decide (b.term.b0≤9223372036854775807)&&decide (-9223372036854775808≤b.term.b1)&&decide (b.term.b1≤9223372036854775807)&&(b.ops.all fun o=>[o.kind,o.dst,o.a,o.b,o.n,o.ctx,o.var,o.piece,o.sk,o.sv,o.sa].all fun x=>decide (-9223372036854775808≤x)&&decide (x≤9223372036854775807))&&(b.term.args.all fun x=>decide (-9223372036854775808≤x)&&decide (x≤9223372036854775807))&&(b.term.args0.all fun x=>decide (-9223372036854775808≤x)&&decide (x≤9223372036854775807))&&(b.term.args1.all fun x=>decide (-9223372036854775808≤x)&&decide (x≤9223372036854775807))&&decide (b.ops.length≤140737488351232))=true):BlkI b:=by
 simp only [Bool.and_eq_true,decide_eq_true_eq,List.all_eq_true] at h
 obtain ⟨⟨⟨⟨⟨⟨⟨⟨⟨⟨⟨⟨⟨⟨⟨⟨h1,h2⟩,h3⟩,h4⟩,h5⟩,h6⟩,h7⟩,h8⟩,h9⟩,h10⟩,h11⟩,h12⟩,h13⟩,h14⟩,h15⟩,h16⟩,h17⟩:=h
 refine ⟨⟨⟨h1,h2⟩,⟨h3,h4⟩,⟨h5,h6⟩,⟨h7,h8⟩,⟨h9,h10⟩,⟨h11,h12⟩⟩,fun o ho=>?_,fun x hx=>h14 x hx,fun x hx=>h15 x hx,fun x hx=>h16 x hx,h17⟩
 have q:=h13 o ho
 exact ⟨q o.kind (by simp),q o.dst (by simp),q o.a (by simp),q o.b (by simp),q o.n (by simp),q o.ctx (by simp),q o.var (by simp),q o.piece (by simp),q o.sk (by simp),q o.sv (by simp),q o.sa (by simp)⟩
theorem codeI_F:CodeI downF:=⟨⟨by decide,by decide⟩,fun b hb=>by
 simp only [downF,List.mem_cons,List.not_mem_nil,or_false] at hb
 rcases hb with rfl | rfl | rfl | rfl <;> exact blkI_of _ (by decide),fun o ho=>by simp [downF] at ho; subst ho; exact ⟨⟨by decide,by decide⟩,⟨by decide,by decide⟩,by decide,by decide⟩,fun o ho=>by simp [downF] at ho⟩
theorem codeI_T:CodeI downT:=⟨⟨by decide,by decide⟩,fun b hb=>by
 simp only [downT,List.mem_cons,List.not_mem_nil,or_false] at hb
 rcases hb with rfl | rfl | rfl | rfl <;> exact blkI_of _ (by decide),fun o ho=>by simp [downT] at ho; subst ho; exact ⟨⟨by decide,by decide⟩,⟨by decide,by decide⟩,by decide,by decide⟩,fun o ho=>by simp [downT] at ho⟩
theorem con_tailF {lo top:Nat}:PX.Con Try.prog 15 [codeP downF] [] lo top (codeP tF) []:=by rw [← tl_F]; exact con_tail codeI_F
theorem con_tailT {lo top:Nat}:PX.Con Try.prog 15 [codeP downT] [] lo top (codeP downT) []:=by
 have h:=con_tail (lo:=lo) (top:=top) codeI_T
 rw [tl_T] at h; exact h
theorem codeI_tF:CodeI tF:=by rw [← tl_F]; exact codeI_tl codeI_F

set_option maxHeartbeats 1000000 in
theorem known14_con  : PX.Con Try.prog 14 [] [] 1 100000 (.sc (.bool true)) []:=by
 refine PX.con_intro [] 46 Try.func14 rfl rfl (by kernel_rfl) (by kernel_rfl) ?_
 intro E a hE hS
 generalize E.w0=w at hS ⊢
 have mix:=mixed
 refine PX.G [] [] 1 [] [] [.au] [] [] hS hE trivial fun a w hS=>?_
 refine PX.G [(.e 1 (.ptr 1 0)),(.e 2 (.ptr 2 0))] [(1,.box 26 (codeL tF)),(2,.box 26 (codeL downT))] 3 [.q (PX.Con Try.prog 21 [(.sc (.bool false))] [] 1 1 (codeP downF) []),.q (PX.Con Try.prog 15 [(codeP downF)] [] 1 1 (codeP tF) []),.q (PX.Con Try.prog 21 [(.sc (.bool true))] [] 1 1 (codeP downT) []),.q (PX.Con Try.prog 15 [(codeP downT)] [] 1 1 (codeP downT) [])] [] [.cl [] (codeP downF) [] 1,.cl [] (codeP tF) [] 1,.cl [] (codeP downT) [] 1,.cl [] (codeP downT) [] 1,.au,.au,.au,.au] [1,2] [1,2] hS hE ⟨PX.con_any con_downF,con_tailF,PX.con_any con_downT,con_tailT,trivial⟩ fun a w hS=>?_
 refine PX.G [(.e 0 (.sc (.bool ((((((tF.blocks.length:Int)==4)&&(((tailY (downB [])).term.kind)==6))&&(((tailY (downB [])).term.b0)==(-1)))&&((downT.blocks.length:Int)==4))&&(((downB [0]).term.kind)==3)))))] [] 3 [.q ((.sc (.I (((tF.blocks.map encB).length:Nat):Int)):PX.PV)=(.sc (.I (tF.blocks.length:Int)))),.q (SX.pv [(4,((tF.blocks.length:Int)==4)),(13,(((tF.blocks.length:Int)==4)&&(((tailY (downB [])).term.kind)==6))),(24,((((tF.blocks.length:Int)==4)&&(((tailY (downB [])).term.kind)==6))&&(((tailY (downB [])).term.b0)==(-1)))),(30,(((((tF.blocks.length:Int)==4)&&(((tailY (downB [])).term.kind)==6))&&(((tailY (downB [])).term.b0)==(-1)))&&((downT.blocks.length:Int)==4)))] [(4,true)]=true→PX.AllOb [.q (1=((1:Nat):Int)),.q ((tF.blocks.map encB)[1]?=some (encB (tailY (downB []))))]),.q (SX.pv [(4,((tF.blocks.length:Int)==4)),(13,(((tF.blocks.length:Int)==4)&&(((tailY (downB [])).term.kind)==6))),(24,((((tF.blocks.length:Int)==4)&&(((tailY (downB [])).term.kind)==6))&&(((tailY (downB [])).term.b0)==(-1)))),(30,(((((tF.blocks.length:Int)==4)&&(((tailY (downB [])).term.kind)==6))&&(((tailY (downB [])).term.b0)==(-1)))&&((downT.blocks.length:Int)==4)))] [(13,true)]=true→PX.AllOb [.q (1=((1:Nat):Int)),.q ((tF.blocks.map encB)[1]?=some (encB (tailY (downB []))))]),.q (SX.pv [(4,((tF.blocks.length:Int)==4)),(13,(((tF.blocks.length:Int)==4)&&(((tailY (downB [])).term.kind)==6))),(24,((((tF.blocks.length:Int)==4)&&(((tailY (downB [])).term.kind)==6))&&(((tailY (downB [])).term.b0)==(-1)))),(30,(((((tF.blocks.length:Int)==4)&&(((tailY (downB [])).term.kind)==6))&&(((tailY (downB [])).term.b0)==(-1)))&&((downT.blocks.length:Int)==4)))] [(24,true)]=true→PX.AllOb [.q ((.sc (.I (((downT.blocks.map encB).length:Nat):Int)):PX.PV)=(.sc (.I (downT.blocks.length:Int))))]),.q (SX.pv [(4,((tF.blocks.length:Int)==4)),(13,(((tF.blocks.length:Int)==4)&&(((tailY (downB [])).term.kind)==6))),(24,((((tF.blocks.length:Int)==4)&&(((tailY (downB [])).term.kind)==6))&&(((tailY (downB [])).term.b0)==(-1)))),(30,(((((tF.blocks.length:Int)==4)&&(((tailY (downB [])).term.kind)==6))&&(((tailY (downB [])).term.b0)==(-1)))&&((downT.blocks.length:Int)==4)))] [(30,true)]=true→PX.AllOb [.q (1=((1:Nat):Int)),.q ((downT.blocks.map encB)[1]?=some (encB (downB [0])))])] [(4,((tF.blocks.length:Int)==4)),(13,(((tF.blocks.length:Int)==4)&&(((tailY (downB [])).term.kind)==6))),(24,((((tF.blocks.length:Int)==4)&&(((tailY (downB [])).term.kind)==6))&&(((tailY (downB [])).term.b0)==(-1)))),(30,(((((tF.blocks.length:Int)==4)&&(((tailY (downB [])).term.kind)==6))&&(((tailY (downB [])).term.b0)==(-1)))&&((downT.blocks.length:Int)==4)))] [.au,.au,.nm (.sc (.I (tF.blocks.length:Int))),.au,.au,.au,.au,.ix 1 (encB (tailY (downB []))),.au,.au,.au,.au,.pk,.au,.au,.au,.ix 1 (encB (tailY (downB []))),.au,.au,.au,.au,.au,.au,.pk,.au,.au,.au,.nm (.sc (.I (downT.blocks.length:Int))),.au,.pk,.au,.au,.au,.ix 1 (encB (downB [0])),.au,.au,.au,.au,.pk,.au] [0] [] hS hE ⟨PX.nm_len (by simp),fun hg=>⟨rfl,rfl,trivial⟩,fun hg=>⟨rfl,rfl,trivial⟩,fun hg=>⟨PX.nm_len (by simp),trivial⟩,fun hg=>⟨rfl,rfl,trivial⟩,trivial⟩ fun a w hS=>?_
 refine wp_ret ?_
 rw [show (.sc (.bool true))=((.sc (.bool ((((((tF.blocks.length:Int)==4)&&(((tailY (downB [])).term.kind)==6))&&(((tailY (downB [])).term.b0)==(-1)))&&((downT.blocks.length:Int)==4))&&(((downB [0]).term.kind)==3)))):PX.PV) from by kernel_rfl]
 exact PX.rt hS hE (.inl rfl)

theorem con_known14 {lo top:Nat}:PX.Con Try.prog 14 [] [] lo top (.sc (.bool true)) []:=PX.con_any known14_con
end Go.Proofs.Ytlkcidmmpeebeaa
