/- Proved: ir.Trace with a stack: run -/
import Derived.Test.YtlkcidmmpeebeaaPTsB
set_option linter.unusedVariables false
set_option linter.unusedSimpArgs false
namespace Go.Proofs.Ytlkcidmmpeebeaa
open Go.RowKit Go.PX
set_option maxRecDepth 100000
def lowC (p q:Int):List PX.PV:=[.sc (.I 0),.any,.any,.any,.any,.any,.any,.sc (.I p),.imm 1 [],.sc (.I q),.imm 1 []]
def lrS:List (Nat × List PX.PV)→List (List PX.PV)
 | []=>[]
 | x::l=>lrS l++[[.sc (.pointer (some ⟨x.1,0,none⟩))]]
theorem lrS_len:∀ l,(lrS l).length=l.length
 | []=>rfl
 | x::l=>by simp [lrS,lrS_len l]
def LsOk (ls:List (Nat × List PX.PV)) (stk:List (Int × Int)):Prop:=ls.map (·.2)=stk.map (fun p=>lowC p.1 p.2)∧ls.length<20
theorem LsOk.len {ls:List (Nat × List PX.PV)} {stk:List (Int × Int)} (h:LsOk ls stk):ls.length=stk.length:=by
 have:=congrArg List.length h.1; simpa using this
theorem LsOk.nil {ls:List (Nat × List PX.PV)} (h:LsOk ls []):ls=[]:=List.length_eq_zero_iff.1 h.len
theorem LsOk.pop {ls:List (Nat × List PX.PV)} {p:Int × Int} {s:List (Int × Int)} (h:LsOk ls (p::s)):∃ b l,ls=(b,lowC p.1 p.2)::l∧LsOk l s:=by
 cases ls with
 | nil=>exact absurd h.len (by simp)
 | cons x l =>
  obtain ⟨b,xs⟩:=x
  obtain ⟨h1,h2⟩:=h
  simp only [List.map_cons,List.cons.injEq] at h1
  obtain ⟨rfl,h1⟩:=h1
  exact ⟨b,l,rfl,h1,by simp at h2; omega⟩
theorem LsOk.push {ls:List (Nat × List PX.PV)} {stk:List (Int × Int)} (h:LsOk ls stk) (b:Nat) (p q:Int) (hl:¬ 20≤stk.length+1):LsOk ((b,lowC p q)::ls) ((p,q)::stk) :=
 ⟨by simp [h.1],by have:=h.len; simp; omega⟩
theorem updI_nw:∀ (D:List (Int × Int)) (n v:Int),(∀ p∈D,n≠p.1)→updI D n v=D++[(n,v)]
 | [],n,v,_=>rfl
 | p::D,n,v,h=>by
  have h1:=h p (by simp)
  have:(n==p.1)=false:=by simpa using h1
  simp only [updI,this,cond_false,List.cons_append,updI_nw D n v fun q hq=>h q (by simp [hq])]
theorem argsN_up {l:List Int} {k:Nat} {y:Int} (hy:l[k]?=some y):PX.updV (iv (argsN (l.take k))) (k:Int) (.I y)=iv (argsN (l.take (k+1))):=by
 have hk:=(List.getElem?_eq_some_iff.1 hy).1
 rw [upd_iv,argsN_take hy,updI_nw]
 intro p hp
 unfold argsN at hp
 obtain ⟨⟨v,i⟩,hq,rfl⟩:=List.mem_map.1 hp
 have:=List.mem_zipIdx' hq
 simp at this ⊢
 omega
theorem at_some {c:CodeD} {steps:Int} {m:Nat} {at_:Int} {as_:List Int} {n e val:Int} {stk:List (Int × Int)} {r:Int × Int} (hf:finS c steps (m+1) at_ as_ n e val stk=some r) (h1:decide (0≤at_)=true) (h2:decide (5000≤e)=false) :
  ∃ b,c.blocks[at_.toNat]?=some b∧(match opsR steps b.ops (argsN as_) n (IntKind.i64.wrap (e+1)) with
   | none=>some (13,val)
   | some (D,n',e') =>
    if b.term.kind=1 then finS c steps m b.term.b0 (b.term.args0.map (valD D)) n' e' val stk
    else if b.term.kind=2 then (if valD D b.term.a=0 then finS c steps m b.term.b1 (b.term.args1.map (valD D)) n' e' val stk else finS c steps m b.term.b0 (b.term.args0.map (valD D)) n' e' val stk)
    else if b.term.kind=3 then (if 20≤stk.length+1 then some (5,val) else finS c steps m 0 (b.term.args.map (valD D)) n' e' val ((b.term.b0,b.term.b1)::stk))
    else if b.term.kind=6 then finS c steps m 0 (b.term.args.map (valD D)) n' e' val stk
    else if b.term.kind=4 then byStk stk (finS c steps m (-1) [] n' e' (valD D b.term.a) []) (fun p s=>if p.1<0 then none else finS c steps m p.1 [valD D b.term.a] n' e' val s)
    else none)=some r:=by
 rw [finS,if_neg (by have:=of_decide_eq_true h1; omega),if_neg (by have:=of_decide_eq_false h2; omega)] at hf
 cases h:c.blocks[at_.toNat]? with
 | none=>rw [h] at hf; cases hf
 | some b=>rw [h] at hf; exact ⟨b,rfl,hf⟩
theorem fin_end {c:CodeD} {steps:Int} {m:Nat} {at_:Int} {as_:List Int} {n e val err res:Int} {stk:List (Int × Int)} (hf:finS c steps (m+1) at_ as_ n e val stk=some (err,res)) (h1:decide (0≤at_)=false):err=0∧res=val:=by
 rw [finS,if_pos (by have:=of_decide_eq_false h1; omega)] at hf
 simp only [Option.some.injEq,Prod.mk.injEq] at hf
 exact ⟨hf.1.symm,hf.2.symm⟩
theorem fin_fuel {c:CodeD} {steps:Int} {m:Nat} {at_:Int} {as_:List Int} {n e val err res:Int} {stk:List (Int × Int)} (hf:finS c steps (m+1) at_ as_ n e val stk=some (err,res)) (h1:decide (0≤at_)=true) (h2:decide (5000≤e)=true):err=13∧res=val:=by
 rw [finS,if_neg (by have:=of_decide_eq_true h1; omega),if_pos (of_decide_eq_true h2)] at hf
 simp only [Option.some.injEq,Prod.mk.injEq] at hf
 exact ⟨hf.1.symm,hf.2.symm⟩

set_option maxHeartbeats 4000000 in
theorem con_f61 (c:CodeD) (hi:CodeI c) (hs:Simple c) (hfit:Fit c) (steps:Int) (F:Nat) (args:List Int) (err res:Int) (hfin0:finS c steps F 0 args 0 0 0 []=some (err,res)) (hal0:args.length≤1000000):PX.Con Try.prog 61 [(.ptr 1 0),(.J 0),(.own 2 1 (0+(args.map encI).length))] [(1,.box 116 [(.sc (.slice none 0 0)),(.sc (.slice none 0 0)),(.sc (.slice none 0 0)),(.sc (.slice none 0 0)),(.imm 4 ([[(.J c.params),(.imm 10 (c.blocks.map encB)),(.imm 3 (c.contexts.map encR)),(.imm 3 ([]))]])),(.J steps),(.J 0),(.J 0),(.J 0),(.J 0),(.sc (.slice none 0 0)),(.sc (.slice none 0 0)),(.J 0),(.sc (.bool false)),(.J 0),(.sc (.slice none 0 0))]),(2,.row 3 1 true (args.map encI))] 3 100000 (.tup []) [(1,some (.box 116 [(.sc (.slice none 0 0)),(.sc (.slice none 0 0)),(.sc (.slice none 0 0)),(.sc (.slice none 0 0)),(.imm 4 ([[(.J c.params),(.imm 10 (c.blocks.map encB)),(.imm 3 (c.contexts.map encR)),(.imm 3 ([]))]])),(.J steps),(.J 0),(.J 0),.any,.any,.any,(.sc (.slice none 0 0)),(.J err),(.sc (.bool false)),(.J res),(.sc (.slice none 0 0))])),(2,none)]:=by
 refine PX.con_intro [(.ptr 1 0),(.J 0),(.own 2 1 (0+(args.map encI).length))] 185 Try.func61 rfl rfl (by kernel_rfl) (by kernel_rfl) ?_
 intro E a hE hS
 generalize E.w0=w at hS ⊢
 have mix:=mixed
 replace hS:=PX.recell (id:=1) (j:=10) (.own 3 1 0) (PX.newrow 138 1 hS (hE.le (by decide))) rfl rfl rfl (PX.nil_own 3 1)
 replace hS:=PX.fz 2 [(.e 2 (.imm 1 (args.map encI)))] [] [0,1,2] [1,3] [.b (PX.lenIs (0+(args.map encI).length) (args.map encI))] hS ⟨(by simp [PX.lenIs]),trivial⟩
 replace hS:=(PX.cn [(80,3)] [(.e 0 (.ptr 1 0)),(.e 1 (.J 0)),(.e 2 (.imm 1 (args.map encI)))] [(1,.box 116 [(.sc (.slice none 0 0)),(.sc (.slice none 0 0)),(.sc (.slice none 0 0)),(.sc (.slice none 0 0)),(.imm 4 ([[(.J c.params),(.imm 10 (c.blocks.map encB)),(.imm 3 (c.contexts.map encR)),(.imm 3 ([]))]])),(.J steps),(.J 0),(.J 0),(.J 0),(.J 0),(.own 80 1 (([]:List (List PX.PV)).length)),(.sc (.slice none 0 0)),(.J 0),(.sc (.bool false)),(.J 0),(.sc (.slice none 0 0))]),(80,.row 138 1 true ([]:List (List PX.PV)))] 81 hS hE)
 refine wp_seq_k fun K1 hK1=>?_
 refine wp_seq_k fun K2 hK2=>?_
 replace hS:=(PX.cn [] [(.e 0 (.ptr 1 0)),(.e 1 (.J 0)),(.e 2 (.imm 1 (args.map encI)))] [(1,.box 116 [(.sc (.slice none 0 0)),(.sc (.slice none 0 0)),(.sc (.slice none 0 0)),(.sc (.slice none 0 0)),(.imm 4 ([[(.J c.params),(.imm 10 (c.blocks.map encB)),(.imm 3 (c.contexts.map encR)),(.imm 3 ([]))]])),(.J steps),(.J 0),(.J 0),(.J 0),(.J 0),(.own 80 1 (([]:List (List PX.PV)).length)),(.sc (.slice none 0 0)),(.J 0),(.sc (.bool false)),(.J 0),(.sc (.slice none 0 0))]),(80,.row 138 1 true ([]:List (List PX.PV)))] 81 hS hE)
 refine wp_region_lit ?_
 obtain ⟨σ,Z,hr⟩:=hS
 refine PX.seq_sound (acc:=⟨(.e 16 (.imm 1 (args.map encI)))::(.e 15 (.J 0))::(.e 14 (.ptr 1 0))::[(.e 0 (.ptr 1 0)),(.e 1 (.J 0)),(.e 2 (.imm 1 (args.map encI)))],[(1,.box 116 [(.sc (.slice none 0 0)),(.sc (.slice none 0 0)),(.sc (.slice none 0 0)),(.sc (.slice none 0 0)),(.imm 4 ([[(.J c.params),(.imm 10 (c.blocks.map encB)),(.imm 3 (c.contexts.map encR)),(.imm 3 ([]))]])),(.J steps),(.J 0),(.J 0),(.J 0),(.J 0),(.own 80 1 (([]:List (List PX.PV)).length)),(.sc (.slice none 0 0)),(.J 0),(.sc (.bool false)),(.J 0),(.sc (.slice none 0 0))]),(80,.row 138 1 true ([]:List (List PX.PV)))],81,[],[]⟩) [_,_,_] [.au,.au,.au] (by kernel_rfl) (show 81≤E.top from hE.le (by decide)) trivial trivial hr fun a w σ Z hr=>?_
 obtain ⟨v0,hv0,hu0⟩:=(hr.rs.at_ 14 _ rfl).1 rfl
 obtain ⟨v1,hv1,hu1⟩:=(hr.rs.at_ 15 _ rfl).1 rfl
 obtain ⟨v2,hv2,hu2⟩:=(hr.rs.at_ 16 _ rfl).1 rfl
 refine PX.wpl_callX [1,80] 17 [v0,v1,v2] rfl rfl rfl (by kernel_rfl) (by kernel_rfl) (by simp [Act.eval,hv0,hv1,hv2]) (con_f94 c steps 0 0 0 args [] (by simp)) 84 (show (81:Nat)≤81 by decide) (show (81:Nat)≤84 by decide) (hE.le (by decide)) (hE.le (by decide)) hr (.cons hu0 (.cons hu1 (.cons hu2 .nil))) (fun _=>by kernel_rfl) fun pv a w σ Z _ hr=>?_
 refine PX.seq_sound (acc:=⟨⟨18,[],.sc (.bool false)⟩::⟨17,[],.sc (.bool true)⟩::(.e 16 (.imm 1 (args.map encI)))::(.e 15 (.J 0))::(.e 14 (.ptr 1 0))::[(.e 0 (.ptr 1 0)),(.e 1 (.J 0)),(.e 2 (.imm 1 (args.map encI)))],[(1,.box 116 [(.sc (.slice none 0 0)),(.sc (.slice none 0 0)),(.sc (.slice none 0 0)),(.sc (.slice none 0 0)),(.imm 4 ([[(.J c.params),(.imm 10 (c.blocks.map encB)),(.imm 3 (c.contexts.map encR)),(.imm 3 ([]))]])),(.J steps),(.J 0),(.J 0),(.J 0),(.J 0),(.own 81 1 (([]:List (List PX.PV)).length+1)),(.sc (.slice none 0 0)),(.J 0),(.sc (.bool false)),(.J 0),(.sc (.slice none 0 0))]),(81,.row 138 1 true (([]:List (List PX.PV))++[[(.sc (pv))]])),(82,.box 142 [(.J 0),.any,.any,.any,.any,.any,.any,.any,.any,.any,.any]),(83,.ty pv (.ptr 82 0))],84,[],[]⟩) [_] [.au] (by kernel_rfl) (show 84≤E.top from hE.le (by decide)) trivial trivial hr fun a w σ Z hr=>?_
 show K2 a w
 refine hK2 _ _ ?_
 have hS:=PX.sl (E:=E) (N:=185) [0,1,2,18] ⟨σ,Z,hr⟩
 clear hr hu0 hu1 hu2 hv0 hv1 hv2
 replace hS:=(PX.cn [] [(.e 0 (.ptr 1 0)),(.e 1 (.J 0)),(.e 2 (.imm 1 (args.map encI))),(.e 18 (.sc (.bool false)))] [(1,.box 116 [(.sc (.slice none 0 0)),(.sc (.slice none 0 0)),(.sc (.slice none 0 0)),(.sc (.slice none 0 0)),(.imm 4 ([[(.J c.params),(.imm 10 (c.blocks.map encB)),(.imm 3 (c.contexts.map encR)),(.imm 3 ([]))]])),(.J steps),(.J 0),(.J 0),(.J 0),(.J 0),(.own 81 1 (([]:List (List PX.PV)).length+1)),(.sc (.slice none 0 0)),(.J 0),(.sc (.bool false)),(.J 0),(.sc (.slice none 0 0))]),(81,.row 138 1 true (([]:List (List PX.PV))++[[(.sc (pv))]])),(82,.box 142 [(.J 0),.any,.any,.any,.any,.any,.any,.any,.any,.any,.any]),(83,.ty pv (.ptr 82 0))] 84 hS hE)
 refine PX.cond_s false hS (by kernel_rfl) (fun h3=>nomatch h3) (fun h3=>?_)
 refine wp_skip ?_
 refine hK1 _ _ ?_
 refine PX.G [(.e 6 (.J 0))] [] 84 [] [] [.au] [0,2,6] [1,81,82,83] hS hE trivial fun a w hS=>?_
 refine wp_block ?_
 replace hS:=PX.sl [0,2,6] hS
 have hEo:=hE; have hL:=PX.SatL.nil (e:=142) hS
 refine wp_loop_ghost (fun m a' w'=>∃ (at_:Int) (as_:List Int) (n e val:Int) (stk:List (Int × Int)) (ls:List (Nat × List PX.PV)),finS c steps m at_ as_ n e val stk=some (err,res)∧as_.length≤1000000∧LsOk ls stk∧((∃ pv,PX.SatL E 185 [(.e 0 (.ptr 1 0)),(.e 2 (.imm 1 (as_.map encI))),(.e 6 (.J at_))] [(1,.box 116 [(.sc (.slice none 0 0)),(.sc (.slice none 0 0)),(.sc (.slice none 0 0)),(.sc (.slice none 0 0)),(.imm 4 ([[(.J c.params),(.imm 10 (c.blocks.map encB)),(.imm 3 (c.contexts.map encR)),(.imm 3 ([]))]])),(.J steps),(.J 0),(.J 0),(.J n),(.J e),(.own 4 1 ((lrS ls).length+1)),(.sc (.slice none 0 0)),(.J 0),(.sc (.bool false)),(.J val),(.sc (.slice none 0 0))]),(3,.box 142 [(.J 0),.any,.any,.any,.any,.any,.any,.any,.any,.any,.any]),(4,.row 138 1 true ((lrS ls)++[[PX.PV.sc pv]])),(5,.ty pv (.ptr 3 0))] 6 a' w' 142 ls)∨(at_=-1∧PX.Sat E 185 [(.e 0 (.ptr 1 0)),(.e 6 (.sc (.I (-1))))] [(1,.box 116 [(.sc (.slice none 0 0)),(.sc (.slice none 0 0)),(.sc (.slice none 0 0)),(.sc (.slice none 0 0)),(.imm 4 ([[(.J c.params),(.imm 10 (c.blocks.map encB)),(.imm 3 (c.contexts.map encR)),(.imm 3 ([]))]])),(.J steps),(.J 0),(.J 0),(.J n),(.J e),.any,(.sc (.slice none 0 0)),(.J 0),(.sc (.bool false)),(.J val),(.sc (.slice none 0 0))])] 6 a' w'))) F ⟨0,args,0,0,0,[],[],hfin0,hal0,⟨rfl,by simp⟩,.inl ⟨pv,(hL.canon [(3,82),(4,81),(5,83)] _ _ 6 hEo (by kernel_rfl) (by kernel_rfl) (by kernel_rfl))⟩⟩ ?_
 clear hS hL; rintro m a w ⟨at_,as_,n,e,val,stk,ls,hfin,hal,hls,hS⟩
 obtain ⟨m,rfl⟩:∃ j,m=j+1:=by cases m with | zero=>exact absurd hfin (by simp [finS]) | succ j=>exact ⟨j,rfl⟩
 rcases hS with ⟨pv,hL⟩ | ⟨rfl,hS⟩
 ·skip
  have hlsl:(lrS ls).length<20:=by rw [lrS_len]; exact hls.2
  clear hE
  obtain ⟨E,hE,hS,hback⟩:=hL.nest hEo.etop
  clear hL
  refine wp_seq_k fun K4 hK4=>?_
  refine PX.G [(.e 20 (.sc (.bool (decide (0≤at_)))))] [] 6 [] [] [.au,.au] [0,2,6,20] [1,3,4,5] hS hE trivial fun a w hS=>?_
  refine PX.cond_s (decide (0≤at_)) hS (by kernel_rfl) (fun h5=>?_) (fun h5=>?_)
  ·skip
   refine wp_skip ?_
   refine hK4 _ _ ?_
   refine wp_block ?_
   refine wp_seq_k fun K6 hK6=>?_
   refine PX.G [(.e 25 (.sc (.bool (decide (5000≤e)))))] [] 6 [] [] [.au,.au,.au,.au,.au] [0,2,6,25] [1,3,4,5] hS hE trivial fun a w hS=>?_
   refine PX.cond_s (decide (5000≤e)) hS (by kernel_rfl) (fun h7=>?_) (fun h7=>?_)
   ·skip
    refine PX.G [] [(1,.box 116 [(.sc (.slice none 0 0)),(.sc (.slice none 0 0)),(.sc (.slice none 0 0)),(.sc (.slice none 0 0)),(.imm 4 ([[(.J c.params),(.imm 10 (c.blocks.map encB)),(.imm 3 (c.contexts.map encR)),(.imm 3 ([]))]])),(.J steps),(.J 0),(.J 0),(.J n),(.J e),(.own 4 1 ((lrS ls).length+1)),(.sc (.slice none 0 0)),(.J 13),(.sc (.bool false)),(.J val),(.sc (.slice none 0 0))])] 6 [] [] [.au,.au,.au,.au,.au] [0] [1,3,4,5] hS hE trivial fun a w hS=>?_
    refine wp_ret ?_
    obtain ⟨rfl,rfl⟩:=fin_fuel hfin h5 h7
    replace hS:=PX.recell (id:=1) (j:=8) .any hS rfl rfl rfl (PX.any_of rfl)
    replace hS:=PX.recell (id:=1) (j:=9) .any hS rfl rfl rfl (PX.any_of rfl)
    replace hS:=PX.recell (id:=1) (j:=10) .any hS rfl rfl rfl (PX.any_of rfl)
    replace hS:=(hback _ _ _ _ _ _ hS).sat; have hE:=hEo
    exact PX.ret_s hS hE (by kernel_rfl) (by kernel_rfl) (by kernel_rfl) (by first | exact .inl rfl | exact .inr rfl)
   ·skip
    refine wp_skip ?_
    refine hK6 _ _ ?_
    refine PX.G [] [(1,.box 116 [(.sc (.slice none 0 0)),(.sc (.slice none 0 0)),(.sc (.slice none 0 0)),(.sc (.slice none 0 0)),(.imm 4 ([[(.J c.params),(.imm 10 (c.blocks.map encB)),(.imm 3 (c.contexts.map encR)),(.imm 3 ([]))]])),(.J steps),(.J 0),(.J 0),(.J n),(.sc (.I (IntKind.i64.wrap (e+1)))),(.own 4 1 ((lrS ls).length+1)),(.sc (.slice none 0 0)),(.J 0),(.sc (.bool false)),(.J val),(.sc (.slice none 0 0))])] 6 [] [] [.au,.au,.au,.au,.au,.au,.au,.au] [0,2,6] [1,3,4,5] hS hE trivial fun a w hS=>?_
    refine PX.D [(.e 7 (.ptr 3 0))] [] 6 [.q ((.sc (.I (IntKind.i64.wrap (((((lrS ls).length+1):Nat):Int)-1))):PX.PV)=(.sc (.I (((lrS ls).length:Nat):Int)))),.q ((((lrS ls).length:Nat):Int)=(((lrS ls).length:Nat):Int)),.q ((lrS ls).length<((lrS ls).length+1)),.q ((((lrS ls)++[[PX.PV.sc pv]]):List (List PX.PV))[(lrS ls).length]?=some ([.sc pv])),.q ((pv:Value)=pv)] [] [.au,.au,.au,.au,.au,.au,.au,.au,.au,.nm (.sc (.I (((lrS ls).length:Nat):Int))),.ix ((lrS ls).length) [],.rt ([.sc pv]) [(0,5)],.au] [0,2,6,7] [1,3,4,5] hS mixed hE ⟨PX.nm_int (by simp; rw [IntWalk.i64_in _ (by omega)]; try omega),rfl,by simp,by simp,rfl,trivial⟩ fun a w hS=>?_
    obtain ⟨b,hb,hf⟩:=at_some hfin h5 h7
    have hbm:=List.mem_of_getElem? hb
    have fb:=hfit.ops b hbm; have tb:=hfit.term b hbm
    have hat:0≤at_:=of_decide_eq_true h5
    refine PX.D [(.e 8 (.ptr 6 0))] [(6,.box 62 (encB b))] 7 [.q (0=((0:Nat):Int)),.q (([[(.J c.params),(.imm 10 (c.blocks.map encB)),(.imm 3 (c.contexts.map encR)),(.imm 3 ([]))]]:List (List PX.PV))[0]?=some ([(.J c.params),(.imm 10 (c.blocks.map encB)),(.imm 3 (c.contexts.map encR)),(.imm 3 ([]))])),.q (at_=(at_.toNat:Int)),.q ((c.blocks.map encB)[at_.toNat]?=some (encB b))] [] [.au,.au,.au,.au,.au,.au,.au,.au,.au,.ix 0 ([(.J c.params),(.imm 10 (c.blocks.map encB)),(.imm 3 (c.contexts.map encR)),(.imm 3 ([]))]),.au,.au,.au,.ix at_.toNat (encB b),.au,.au,.au] [0,2,7,8] [1,3,4,5,6] hS mixed hE ⟨rfl,rfl,by omega,PX.map_get hb,trivial⟩ fun a w hS=>?_
    refine PX.G [] [(3,.box 142 [(.J 0),.any,(.map 7),.any,.any,(.sc (.I (-1))),(.sc (.slice none 0 0)),.any,.any,.any,.any]),(7,.mp ([]))] 8 [] [] [.au,.au,.au,.au,.au,.au,.au,.au,.au,.au,.au,.au,.au] [0,2,7,8] [1,3,4,5,6,7] hS hE trivial fun a w hS=>?_
    replace hS:=PX.recell (id:=3) (j:=5) .any hS rfl rfl rfl (PX.any_of rfl)
    replace hS:=PX.recell (id:=3) (j:=6) .any hS rfl rfl rfl (PX.any_of rfl)
    refine wp_seq_k fun K8 hK8=>?_
    refine PX.G [(.e 74 (.imm 1 (as_.map encI))),(.e 75 (.sc (.I (as_.length:Int)))),(.e 76 (.J 0))] [] 8 [.q ((.sc (.I (((as_.map encI).length:Nat):Int)):PX.PV)=(.sc (.I (as_.length:Int))))] [] [.au,.nm (.sc (.I (as_.length:Int))),.au] [0,7,8,74,75,76] [1,3,4,5,6,7] hS hE ⟨PX.nm_len (by simp),trivial⟩ fun a w hS=>?_
    refine wp_block ?_
    rw [show (PX.PO.mp [])=.mp (iv (argsN (as_.take (0)))) from rfl] at hS
    refine wp_loop_ghost (fun m9 a' w'=>∃ k:Nat,m9=as_.length-k∧k≤as_.length∧True∧PX.Sat E 185 [(.e 0 (.ptr 1 0)),(.e 7 (.ptr 3 0)),(.e 8 (.ptr 6 0)),(.e 74 (.imm 1 (as_.map encI))),(.e 75 (.sc (.I (as_.length:Int)))),(.e 76 (.sc (.I (k:Int))))] [(1,.box 116 [(.sc (.slice none 0 0)),(.sc (.slice none 0 0)),(.sc (.slice none 0 0)),(.sc (.slice none 0 0)),(.imm 4 ([[(.J c.params),(.imm 10 (c.blocks.map encB)),(.imm 3 (c.contexts.map encR)),(.imm 3 ([]))]])),(.J steps),(.J 0),(.J 0),(.J n),(.sc (.I (IntKind.i64.wrap (e+1)))),(.own 4 1 ((lrS ls).length+1)),(.sc (.slice none 0 0)),(.J 0),(.sc (.bool false)),(.J val),(.sc (.slice none 0 0))]),(3,.box 142 [(.J 0),.any,(.map 7),.any,.any,.any,.any,.any,.any,.any,.any]),(4,.row 138 1 true ((lrS ls)++[[PX.PV.sc pv]])),(5,.ty pv (.ptr 3 0)),(6,.box 62 (encB b)),(7,.mp (iv (argsN (as_.take (k)))))] 8 a' w') (as_.length-0) ⟨0,rfl,Nat.zero_le _,trivial,(PX.cn [] _ _ 8 hS hE)⟩ ?_
    clear hS; rintro m9 a w ⟨k,hm9,hlek,hIk,hS⟩
    refine PX.G [(.e 77 (.sc (.bool (decide ((k:Int)<(as_.length:Int))))))] [] 8 [] [] [.au] [0,7,8,74,75,76,77] [1,3,4,5,6,7] hS hE trivial fun a w hS=>?_
    refine wp_seq_k fun K10 hK10=>?_
    refine PX.cond_s (decide ((k:Int)<(as_.length:Int))) hS (by kernel_rfl) (fun h11=>?_) (fun h11=>?_)
    ·skip
     refine wp_skip ?_
     refine hK10 _ _ ?_
     refine wp_seq_k fun K12 hK12=>?_
     refine wp_block ?_
     have hlty:k<as_.length:=by simpa using h11
     obtain ⟨y,hy⟩:=get_of_lt hlty
     refine PX.G [(.e 9 (.sc (.I (k:Int)))),(.e 10 (.J y))] [] 8 [.q ((k:Int)=(k:Int)),.q ((as_.map encI)[k]?=some (encI y))] [] [.au,.ix k (encI y),.au,.au,.au] [0,7,8,9,10,74,75,76] [1,3,4,5,6,7] hS hE ⟨rfl,PX.map_get hy,trivial⟩ fun a w hS=>?_
     refine PX.G0 [] [(7,.mp (PX.updV (iv (argsN (as_.take (k)))) (k:Int) (.I y)))] 8 [] [] [.au,.au,.au,.au,.au,.au,.au] [0,7,8,74,75,76] [1,3,4,5,6,7] hS hE trivial fun a w hS=>?_
     refine hK12 _ _ ?_
     refine PX.G0 [(.e 76 (.sc (.I ((k+1:Nat):Int))))] [] 8 [.q ((.sc (.I (IntKind.i64.wrap ((k:Int)+1))):PX.PV)=(.sc (.I ((k+1:Nat):Int))))] [] [.nm (.sc (.I ((k+1:Nat):Int))),.au] [0,7,8,74,75,76] [1,3,4,5,6,7] hS hE ⟨PX.nm_int (by rw [IntWalk.i64_in _ (by omega)]; omega),trivial⟩ fun a w hS=>?_
     rw [show (PX.updV (iv (argsN (as_.take (k)))) (k:Int) (.I y))=iv (argsN (as_.take (k+1))) from argsN_up hy] at hS
     exact ⟨as_.length-(k+1),by omega,k+1,rfl,by omega,trivial,(PX.cn [] _ _ 8 hS hE)⟩
    ·skip
     refine wp_exit ?_
     refine hK8 _ _ ?_
     refine wp_seq_k fun K13 hK13=>?_
     have hka:as_.length≤k:=le_of_dec h11
     rw [List.take_of_length_le hka] at hS
     refine PX.G [(.e 90 (.sc (.I (b.ops.length:Int)))),(.e 91 (.J 0))] [] 8 [.q ((.sc (.I (((b.ops.map encO).length:Nat):Int)):PX.PV)=(.sc (.I (b.ops.length:Int))))] [] [.au,.au,.nm (.sc (.I (b.ops.length:Int))),.au] [0,7,8,90,91] [1,3,4,5,6,7] hS hE ⟨PX.nm_len (by simp),trivial⟩ fun a w hS=>?_
     refine wp_block ?_
     refine wp_loop_ghost (fun j a' w'=>∃ (q:Nat) (D:List (Int × Int)) (n1 e1:Int),j=b.ops.length-q∧q≤b.ops.length∧opsR steps (b.ops.drop (q)) D n1 e1=opsR steps b.ops (argsN as_) n (IntKind.i64.wrap (e+1))∧PX.Sat E 185 [(.e 0 (.ptr 1 0)),(.e 7 (.ptr 3 0)),(.e 8 (.ptr 6 0)),(.e 90 (.sc (.I (b.ops.length:Int)))),(.e 91 (.sc (.I (q:Int))))] [(1,.box 116 [(.sc (.slice none 0 0)),(.sc (.slice none 0 0)),(.sc (.slice none 0 0)),(.sc (.slice none 0 0)),(.imm 4 ([[(.J c.params),(.imm 10 (c.blocks.map encB)),(.imm 3 (c.contexts.map encR)),(.imm 3 ([]))]])),(.J steps),(.J 0),(.J 0),(.J n1),(.J e1),(.own 4 1 ((lrS ls).length+1)),(.sc (.slice none 0 0)),(.J 0),(.sc (.bool false)),(.J val),(.sc (.slice none 0 0))]),(3,.box 142 [(.J 0),.any,(.map 7),.any,.any,.any,.any,.any,.any,.any,.any]),(4,.row 138 1 true ((lrS ls)++[[PX.PV.sc pv]])),(5,.ty pv (.ptr 3 0)),(6,.box 62 (encB b)),(7,.mp (iv D))] 8 a' w') (b.ops.length-0) ⟨0,argsN as_,n,IntKind.i64.wrap (e+1),rfl,Nat.zero_le _,rfl,(PX.cn [] _ _ 8 hS hE)⟩ ?_
     clear hS; rintro j a w ⟨q,D,n1,e1,hj,hle,hI,hS⟩
     refine PX.G [(.e 92 (.sc (.bool (decide ((q:Int)<(b.ops.length:Int))))))] [] 8 [] [] [.au] [0,7,8,90,91,92] [1,3,4,5,6,7] hS hE trivial fun a w hS=>?_
     refine wp_seq_k fun K14 hK14=>?_
     refine PX.cond_s (decide ((q:Int)<(b.ops.length:Int))) hS (by kernel_rfl) (fun h15=>?_) (fun h15=>?_)
     ·skip
      refine wp_skip ?_
      refine hK14 _ _ ?_
      have hlty:q<b.ops.length:=by simpa using h15
      obtain ⟨y,hy⟩:=get_of_lt hlty
      by_cases hst:y.kind=19∧steps≤n1
      ·skip
       have hstop:=hI.symm.trans (opsR_stop hy hst)
       refine wp_seq_k fun K16 hK16=>?_
       refine wp_block ?_
       refine PX.G [(.e 11 (.sc (.I (q:Int))))] [] 8 [] [] [.au,.au] [0,7,8,11,90,91] [1,3,4,5,6,7] hS hE trivial fun a w hS=>?_
       refine PX.G [(.e 99 (.sc (.bool true)))] [(1,.box 116 [(.sc (.slice none 0 0)),(.sc (.slice none 0 0)),(.sc (.slice none 0 0)),(.sc (.slice none 0 0)),(.imm 4 ([[(.J c.params),(.imm 10 (c.blocks.map encB)),(.imm 3 (c.contexts.map encR)),(.imm 3 ([]))]])),(.J steps),(.J 0),(.J 0),(.J n1),(.J e1),(.own 4 1 ((lrS ls).length+1)),(.sc (.slice none 0 0)),(.J 13),(.sc (.bool false)),(.J val),(.sc (.slice none 0 0))]),(7,.mp (iv D))] 8 [.q (PX.Con Try.prog 95 [(.ptr 1 0),(.ptr 3 0),(.agg (encB b)),(.sc (.I (q:Int)))] [(1,.box 116 [(.sc (.slice none 0 0)),(.sc (.slice none 0 0)),(.sc (.slice none 0 0)),(.sc (.slice none 0 0)),(.imm 4 ([[(.J c.params),(.imm 10 (c.blocks.map encB)),(.imm 3 (c.contexts.map encR)),(.imm 3 ([]))]])),(.J steps),(.J 0),(.J 0),(.J n1),(.J e1),(.own 4 1 ((lrS ls).length+1)),(.sc (.slice none 0 0)),(.J 0),(.sc (.bool false)),(.J val),(.sc (.slice none 0 0))]),(3,.box 142 [(.J 0),.any,(.map 7),.any,.any,.any,.any,.any,.any,.any,.any]),(7,.mp (iv D)),(4,.row 138 1 true ((lrS ls)++[[PX.PV.sc pv]]))] 8 8 (.sc (.bool false)) [(1,some (.box 116 [(.sc (.slice none 0 0)),(.sc (.slice none 0 0)),(.sc (.slice none 0 0)),(.sc (.slice none 0 0)),(.imm 4 ([[(.J c.params),(.imm 10 (c.blocks.map encB)),(.imm 3 (c.contexts.map encR)),(.imm 3 ([]))]])),(.J steps),(.J 0),(.J 0),(.J n1),(.J e1),(.own 4 1 ((lrS ls).length+1)),(.sc (.slice none 0 0)),(.J 13),(.sc (.bool false)),(.J val),(.sc (.slice none 0 0))])),(3,some (.box 142 [(.J 0),.any,(.map 7),.any,.any,.any,.any,.any,.any,.any,.any])),(7,some (.mp (iv D))),(4,some (.row 138 1 true ((lrS ls)++[[PX.PV.sc pv]])))])] [] [.au,.au,.au,.au,.cl [1,3,7,4] (.sc (.bool false)) [(1,some (.box 116 [(.sc (.slice none 0 0)),(.sc (.slice none 0 0)),(.sc (.slice none 0 0)),(.sc (.slice none 0 0)),(.imm 4 ([[(.J c.params),(.imm 10 (c.blocks.map encB)),(.imm 3 (c.contexts.map encR)),(.imm 3 ([]))]])),(.J steps),(.J 0),(.J 0),(.J n1),(.J e1),(.own 4 1 ((lrS ls).length+1)),(.sc (.slice none 0 0)),(.J 13),(.sc (.bool false)),(.J val),(.sc (.slice none 0 0))])),(3,some (.box 142 [(.J 0),.any,(.map 7),.any,.any,.any,.any,.any,.any,.any,.any])),(7,some (.mp (iv D))),(4,some (.row 138 1 true ((lrS ls)++[[PX.PV.sc pv]])))] 8,.au] [0,7,8,90,91,99] [1,3,4,5,6,7] hS hE ⟨PX.con_as [(1,1),(3,2),(7,3),(4,4)] [(1,1),(2,3),(3,7),(4,4)] (con_op19n c steps n1 e1 0 val D ((lrS ls).length+1) (lrS ls++[[PX.PV.sc pv]]) b q y hy hst.1 (by omega) (noB (hs.ops b hbm)) (decide_eq_true hst.2)) (by kernel_rfl) (by kernel_rfl) (by kernel_rfl) (by kernel_rfl) (by kernel_rfl) (by kernel_rfl),trivial⟩ fun a w hS=>?_
       refine PX.cond_s true hS (by kernel_rfl) (fun h17=>?_) (fun h17=>nomatch h17)
       refine wp_ret ?_
       rw [hstop] at hf; simp only [Option.some.injEq,Prod.mk.injEq] at hf; obtain ⟨rfl,rfl⟩:=hf
       replace hS:=PX.recell (id:=1) (j:=8) .any hS rfl rfl rfl (PX.any_of rfl)
       replace hS:=PX.recell (id:=1) (j:=9) .any hS rfl rfl rfl (PX.any_of rfl)
       replace hS:=PX.recell (id:=1) (j:=10) .any hS rfl rfl rfl (PX.any_of rfl)
       replace hS:=(hback _ _ _ _ _ _ hS).sat; have hE:=hEo
       exact PX.ret_s hS hE (by kernel_rfl) (by kernel_rfl) (by kernel_rfl) (by first | exact .inl rfl | exact .inr rfl)
      ·skip
       refine wp_seq_k fun K18 hK18=>?_
       refine wp_block ?_
       refine PX.G [(.e 11 (.sc (.I (q:Int))))] [] 8 [] [] [.au,.au] [0,7,8,11,90,91] [1,3,4,5,6,7] hS hE trivial fun a w hS=>?_
       refine PX.G [(.e 99 (.sc (.bool false)))] [(1,.box 116 [(.sc (.slice none 0 0)),(.sc (.slice none 0 0)),(.sc (.slice none 0 0)),(.sc (.slice none 0 0)),(.imm 4 ([[(.J c.params),(.imm 10 (c.blocks.map encB)),(.imm 3 (c.contexts.map encR)),(.imm 3 ([]))]])),(.J steps),(.J 0),(.J 0),(.sc (.I (opN y n1))),(.sc (.I (opE y e1))),(.own 4 1 ((lrS ls).length+1)),(.sc (.slice none 0 0)),(.J 0),(.sc (.bool false)),(.J val),(.sc (.slice none 0 0))]),(7,.mp (iv (opD y D)))] 8 [.q (PX.Con Try.prog 95 [(.ptr 1 0),(.ptr 3 0),(.agg (encB b)),(.sc (.I (q:Int)))] [(1,.box 116 [(.sc (.slice none 0 0)),(.sc (.slice none 0 0)),(.sc (.slice none 0 0)),(.sc (.slice none 0 0)),(.imm 4 ([[(.J c.params),(.imm 10 (c.blocks.map encB)),(.imm 3 (c.contexts.map encR)),(.imm 3 ([]))]])),(.J steps),(.J 0),(.J 0),(.J n1),(.J e1),(.own 4 1 ((lrS ls).length+1)),(.sc (.slice none 0 0)),(.J 0),(.sc (.bool false)),(.J val),(.sc (.slice none 0 0))]),(3,.box 142 [(.J 0),.any,(.map 7),.any,.any,.any,.any,.any,.any,.any,.any]),(7,.mp (iv D)),(4,.row 138 1 true ((lrS ls)++[[PX.PV.sc pv]]))] 8 8 (.sc (.bool true)) [(1,some (.box 116 [(.sc (.slice none 0 0)),(.sc (.slice none 0 0)),(.sc (.slice none 0 0)),(.sc (.slice none 0 0)),(.imm 4 ([[(.J c.params),(.imm 10 (c.blocks.map encB)),(.imm 3 (c.contexts.map encR)),(.imm 3 ([]))]])),(.J steps),(.J 0),(.J 0),(.sc (.I (opN y n1))),(.sc (.I (opE y e1))),(.own 4 1 ((lrS ls).length+1)),(.sc (.slice none 0 0)),(.J 0),(.sc (.bool false)),(.J val),(.sc (.slice none 0 0))])),(3,some (.box 142 [(.J 0),.any,(.map 7),.any,.any,.any,.any,.any,.any,.any,.any])),(7,some (.mp (iv (opD y D)))),(4,some (.row 138 1 true ((lrS ls)++[[PX.PV.sc pv]])))])] [] [.au,.au,.au,.au,.cl [1,3,7,4] (.sc (.bool true)) [(1,some (.box 116 [(.sc (.slice none 0 0)),(.sc (.slice none 0 0)),(.sc (.slice none 0 0)),(.sc (.slice none 0 0)),(.imm 4 ([[(.J c.params),(.imm 10 (c.blocks.map encB)),(.imm 3 (c.contexts.map encR)),(.imm 3 ([]))]])),(.J steps),(.J 0),(.J 0),(.sc (.I (opN y n1))),(.sc (.I (opE y e1))),(.own 4 1 ((lrS ls).length+1)),(.sc (.slice none 0 0)),(.J 0),(.sc (.bool false)),(.J val),(.sc (.slice none 0 0))])),(3,some (.box 142 [(.J 0),.any,(.map 7),.any,.any,.any,.any,.any,.any,.any,.any])),(7,some (.mp (iv (opD y D)))),(4,some (.row 138 1 true ((lrS ls)++[[PX.PV.sc pv]])))] 8,.au] [0,7,8,90,91,99] [1,3,4,5,6,7] hS hE ⟨PX.con_as [(1,1),(3,2),(7,3),(4,4)] [(1,1),(2,3),(3,7),(4,4)] (con_op c steps n1 e1 0 val D ((lrS ls).length+1) (lrS ls++[[PX.PV.sc pv]]) b q y hy (hs.ops b hbm y (List.mem_of_getElem? hy)) hst (by omega) (noB (hs.ops b hbm))) (by kernel_rfl) (by kernel_rfl) (by kernel_rfl) (by kernel_rfl) (by kernel_rfl) (by kernel_rfl),trivial⟩ fun a w hS=>?_
       refine PX.cond_s false hS (by kernel_rfl) (fun h19=>nomatch h19) (fun h19=>?_)
       refine wp_skip ?_
       refine hK18 _ _ ?_
       refine PX.G0 [(.e 91 (.sc (.I ((q+1:Nat):Int))))] [] 8 [.q ((.sc (.I (IntKind.i64.wrap ((q:Int)+1))):PX.PV)=(.sc (.I ((q+1:Nat):Int))))] [] [.nm (.sc (.I ((q+1:Nat):Int))),.au] [0,7,8,90,91] [1,3,4,5,6,7] hS hE ⟨PX.nm_int (by rw [IntWalk.i64_in _ (by omega)]; omega),trivial⟩ fun a w hS=>?_
       exact ⟨b.ops.length-(q+1),by omega,q+1,opD y D,opN y n1,opE y e1,rfl,by omega,(opsR_step hy hst).trans hI,(PX.cn [] _ _ 8 hS hE)⟩
     ·skip
      refine wp_exit ?_
      refine hK13 _ _ ?_
      refine PX.G [(.e 12 (.ptr 8 0))] [(8,.box 60 [(.J b.term.kind),(.J b.term.a),(.J b.term.n),(.imm 1 (b.term.args.map encI)),(.J b.term.b0),(.imm 1 (b.term.args0.map encI)),(.J b.term.b1),(.imm 1 (b.term.args1.map encI))])] 9 [] [] [.au,.au,.au,.au] [0,7,12] [1,3,4,5,7,8] hS hE trivial fun a w hS=>?_
      have hko:b.ops.length≤q:=le_of_dec h15
      rw [← hI,List.drop_of_length_le hko,opsR] at hf; simp only at hf
      rcases hs.term b hbm with ht | ht | ht | ht | ht
      ·skip
       replace hS:=PX.recell (id:=8) (j:=0) (.sc (.I 1)) hS rfl rfl rfl (fun _ _ _ _ h=>(show PX.PV.sc (.I b.term.kind)=.sc (.I 1) from by rw [ht]) ▸ h)
       rw [if_pos ht] at hf
       refine PX.G [(.e 104 (.J 1))] [] 9 [] [] [.au,.au] [0,7,12,104] [1,3,4,5,7,8] hS hE trivial fun a w hS=>?_
       refine wp_block ?_
       refine wp_seq_k fun K20 hK20=>?_
       refine PX.G [(.e 120 (.sc (.bool true)))] [] 9 [] [] [.au,.au] [0,7,12,104,120] [1,3,4,5,7,8] hS hE trivial fun a w hS=>?_
       refine PX.cond_s true hS (by kernel_rfl) (fun h21=>?_) (fun h21=>nomatch h21)
       refine wp_skip ?_
       refine hK20 _ _ ?_
       refine PX.cond_s true hS (by kernel_rfl) (fun h22=>?_) (fun h22=>nomatch h22)
       refine PX.G [(.e 13 (.ptr 9 0))] [(9,.box 57 [(.J b.term.b0),(.imm 1 (b.term.args0.map encI))])] 10 [] [] [.au,.au,.au,.au,.au] [0,7,12,13] [1,3,4,5,7,8,9] hS hE trivial fun a w hS=>?_
       refine wp_seq_k fun K23 hK23=>?_
       refine PX.D [(.e 138 (.sc (.bool false)))] [] 10 [] [(3,false)] [.au,.au,.au,.au,.dd,.dd,.dd,.dd,.dd,.dd,.dd,.dd,.au] [0,7,12,13,138] [1,3,4,5,7,8,9] hS mixed hE trivial fun a w hS=>?_
       refine PX.cond_s false hS (by kernel_rfl) (fun h24=>nomatch h24) (fun h24=>?_)
       refine wp_skip ?_
       refine hK23 _ _ ?_
       refine PX.D0 [(.e 2 (.imm 1 ((b.term.args0.map (valD D)).map encI))),(.e 6 (.J b.term.b0))] [] 10 [.q (PX.Con Try.prog 96 [(.ptr 3 0),(.imm 1 (b.term.args0.map encI))] [(3,.box 142 [(.J 0),.any,(.map 7),.any,.any,.any,.any,.any,.any,.any,.any]),(7,.mp (iv D))] 10 10 (.imm 1 ((b.term.args0.map (valD D)).map encI)) [(3,some (.box 142 [(.J 0),.any,(.map 7),.any,.any,.any,.any,.any,.any,.any,.any])),(7,some (.mp (iv D)))])] [] [.au,.au,.au,.au,.au,.cl [3,7] (.imm 1 ((b.term.args0.map (valD D)).map encI)) [(3,some (.box 142 [(.J 0),.any,(.map 7),.any,.any,.any,.any,.any,.any,.any,.any])),(7,some (.mp (iv D)))] 10,.au,.au] [0,2,6] [1,3,4,5,7] hS mixed hE ⟨PX.con_as [(3,2),(7,3)] [(2,3),(3,7)] (con_f96 D b.term.args0 (by omega)) (by kernel_rfl) (by kernel_rfl) (by kernel_rfl) (by kernel_rfl) (by kernel_rfl) (by kernel_rfl),trivial⟩ fun a w hS=>?_
       replace hS:=PX.recell (id:=3) (j:=2) .any hS rfl rfl rfl (PX.any_of rfl)
       replace hS:=PX.sl [0,2,6] hS; have hL:=hback _ _ _ _ _ _ hS
       exact ⟨m,by omega,b.term.b0,(b.term.args0.map (valD D)),n1,e1,val,stk,ls,hf,by simp; omega,hls,.inl ⟨pv,(hL.canon [] _ _ 6 hEo (by kernel_rfl) (by kernel_rfl) (by kernel_rfl))⟩⟩
      ·skip
       replace hS:=PX.recell (id:=8) (j:=0) (.sc (.I 2)) hS rfl rfl rfl (fun _ _ _ _ h=>(show PX.PV.sc (.I b.term.kind)=.sc (.I 2) from by rw [ht]) ▸ h)
       rw [if_neg (by omega),if_pos ht] at hf
       refine PX.G [(.e 104 (.J 2))] [] 9 [] [] [.au,.au] [0,7,12,104] [1,3,4,5,7,8] hS hE trivial fun a w hS=>?_
       refine wp_block ?_
       refine wp_seq_k fun K25 hK25=>?_
       refine PX.G [(.e 120 (.sc (.bool false)))] [] 9 [] [] [.au,.au] [0,7,12,104,120] [1,3,4,5,7,8] hS hE trivial fun a w hS=>?_
       refine PX.cond_s false hS (by kernel_rfl) (fun h26=>nomatch h26) (fun h26=>?_)
       refine PX.G0 [(.e 120 (.sc (.bool true)))] [] 9 [] [] [.au,.au] [0,7,12,104,120] [1,3,4,5,7,8] hS hE trivial fun a w hS=>?_
       refine hK25 _ _ ?_
       refine PX.cond_s true hS (by kernel_rfl) (fun h27=>?_) (fun h27=>nomatch h27)
       refine PX.G [(.e 13 (.ptr 9 0))] [(9,.box 57 [(.J b.term.b0),(.imm 1 (b.term.args0.map encI))])] 10 [] [] [.au,.au,.au,.au,.au] [0,7,12,13] [1,3,4,5,7,8,9] hS hE trivial fun a w hS=>?_
       refine wp_seq_k fun K28 hK28=>?_
       refine PX.D [(.e 130 (.ptr 3 0)),(.e 131 (.ptr 3 0)),(.e 132 (.ptr 3 2)),(.e 133 (.map 7)),(.e 134 (.ptr 8 1)),(.e 135 (.J b.term.a)),(.e 136 (.sc (.I (valD D b.term.a)))),(.e 137 (.sc (.bool ((valD D b.term.a)==0)))),(.e 138 (.sc (.bool ((valD D b.term.a)==0))))] [] 10 [.q ((.sc ((PX.findV (iv D) b.term.a).getD (.I 0)):PX.PV)=(.sc (.I (valD D b.term.a))))] [] [.au,.au,.au,.au,.au,.au,.au,.au,.au,.au,.nm (.sc (.I (valD D b.term.a))),.au,.au] [0,7,12,13,130,131,132,133,134,135,136,137,138] [1,3,4,5,7,8,9] hS mixed hE ⟨look_iv D b.term.a,trivial⟩ fun a w hS=>?_
       refine PX.cond_s ((valD D b.term.a)==0) hS (by kernel_rfl) (fun h29=>?_) (fun h29=>?_)
       ·skip
        refine PX.G0 [] [(9,.box 57 [(.J b.term.b1),(.imm 1 (b.term.args1.map encI))])] 10 [] [] [.au,.au,.au,.au] [0,7,13,130,131,132,133,134,135,136,137] [1,3,4,5,7,8,9] hS hE trivial fun a w hS=>?_
        refine hK28 _ _ ?_
        refine PX.D0 [(.e 2 (.imm 1 ((b.term.args1.map (valD D)).map encI))),(.e 6 (.J b.term.b1))] [] 10 [.q (PX.Con Try.prog 96 [(.ptr 3 0),(.imm 1 (b.term.args1.map encI))] [(3,.box 142 [(.J 0),.any,(.map 7),.any,.any,.any,.any,.any,.any,.any,.any]),(7,.mp (iv D))] 10 10 (.imm 1 ((b.term.args1.map (valD D)).map encI)) [(3,some (.box 142 [(.J 0),.any,(.map 7),.any,.any,.any,.any,.any,.any,.any,.any])),(7,some (.mp (iv D)))])] [] [.au,.au,.au,.au,.au,.cl [3,7] (.imm 1 ((b.term.args1.map (valD D)).map encI)) [(3,some (.box 142 [(.J 0),.any,(.map 7),.any,.any,.any,.any,.any,.any,.any,.any])),(7,some (.mp (iv D)))] 10,.au,.au] [0,2,6,130,131,132,133,134,135,136,137] [1,3,4,5,7,8] hS mixed hE ⟨PX.con_as [(3,2),(7,3)] [(2,3),(3,7)] (con_f96 D b.term.args1 (by omega)) (by kernel_rfl) (by kernel_rfl) (by kernel_rfl) (by kernel_rfl) (by kernel_rfl) (by kernel_rfl),trivial⟩ fun a w hS=>?_
        rw [if_pos (by simpa using h29)] at hf
        replace hS:=PX.recell (id:=3) (j:=2) .any hS rfl rfl rfl (PX.any_of rfl)
        replace hS:=PX.sl [0,2,6] hS; have hL:=hback _ _ _ _ _ _ hS
        exact ⟨m,by omega,b.term.b1,(b.term.args1.map (valD D)),n1,e1,val,stk,ls,hf,by simp; omega,hls,.inl ⟨pv,(hL.canon [] _ _ 6 hEo (by kernel_rfl) (by kernel_rfl) (by kernel_rfl))⟩⟩
       ·skip
        refine wp_skip ?_
        refine hK28 _ _ ?_
        refine PX.D0 [(.e 2 (.imm 1 ((b.term.args0.map (valD D)).map encI))),(.e 6 (.J b.term.b0))] [] 10 [.q (PX.Con Try.prog 96 [(.ptr 3 0),(.imm 1 (b.term.args0.map encI))] [(3,.box 142 [(.J 0),.any,(.map 7),.any,.any,.any,.any,.any,.any,.any,.any]),(7,.mp (iv D))] 10 10 (.imm 1 ((b.term.args0.map (valD D)).map encI)) [(3,some (.box 142 [(.J 0),.any,(.map 7),.any,.any,.any,.any,.any,.any,.any,.any])),(7,some (.mp (iv D)))])] [] [.au,.au,.au,.au,.au,.cl [3,7] (.imm 1 ((b.term.args0.map (valD D)).map encI)) [(3,some (.box 142 [(.J 0),.any,(.map 7),.any,.any,.any,.any,.any,.any,.any,.any])),(7,some (.mp (iv D)))] 10,.au,.au] [0,2,6,130,131,132,133,134,135,136,137] [1,3,4,5,7,8] hS mixed hE ⟨PX.con_as [(3,2),(7,3)] [(2,3),(3,7)] (con_f96 D b.term.args0 (by omega)) (by kernel_rfl) (by kernel_rfl) (by kernel_rfl) (by kernel_rfl) (by kernel_rfl) (by kernel_rfl),trivial⟩ fun a w hS=>?_
        rw [if_neg (by simpa using h29)] at hf
        replace hS:=PX.recell (id:=3) (j:=2) .any hS rfl rfl rfl (PX.any_of rfl)
        replace hS:=PX.sl [0,2,6] hS; have hL:=hback _ _ _ _ _ _ hS
        exact ⟨m,by omega,b.term.b0,(b.term.args0.map (valD D)),n1,e1,val,stk,ls,hf,by simp; omega,hls,.inl ⟨pv,(hL.canon [] _ _ 6 hEo (by kernel_rfl) (by kernel_rfl) (by kernel_rfl))⟩⟩
      ·skip
       obtain ⟨hn0,hpar,hg0,hg1⟩:=hs.call b hbm (by omega)
       replace hS:=PX.recell (id:=8) (j:=0) (.sc (.I 3)) hS rfl rfl rfl (fun _ _ _ _ h=>(show PX.PV.sc (.I b.term.kind)=.sc (.I 3) from by rw [ht]) ▸ h)
       replace hS:=PX.recell (id:=8) (j:=2) (.sc (.I 0)) hS rfl rfl rfl (fun _ _ _ _ h=>(show PX.PV.sc (.I b.term.n)=.sc (.I 0) from by rw [hn0]) ▸ h)
       rw [if_neg (by omega),if_neg (by omega),if_pos ht] at hf
       refine PX.G [(.e 104 (.J 3))] [] 9 [] [] [.au,.au] [0,7,12,104] [1,3,4,5,7,8] hS hE trivial fun a w hS=>?_
       refine wp_block ?_
       refine wp_seq_k fun K30 hK30=>?_
       refine PX.G [(.e 120 (.sc (.bool false)))] [] 9 [] [] [.au,.au] [0,7,12,104,120] [1,3,4,5,7,8] hS hE trivial fun a w hS=>?_
       refine PX.cond_s false hS (by kernel_rfl) (fun h31=>nomatch h31) (fun h31=>?_)
       refine PX.G0 [(.e 120 (.sc (.bool false)))] [] 9 [] [] [.au,.au] [0,7,12,104,120] [1,3,4,5,7,8] hS hE trivial fun a w hS=>?_
       refine hK30 _ _ ?_
       refine PX.cond_s false hS (by kernel_rfl) (fun h32=>nomatch h32) (fun h32=>?_)
       refine wp_seq_k fun K33 hK33=>?_
       refine PX.G [(.e 148 (.sc (.bool true)))] [] 9 [] [] [.au,.au] [0,7,12,104,148] [1,3,4,5,7,8] hS hE trivial fun a w hS=>?_
       refine PX.cond_s true hS (by kernel_rfl) (fun h34=>?_) (fun h34=>nomatch h34)
       refine wp_skip ?_
       refine hK33 _ _ ?_
       refine PX.cond_s true hS (by kernel_rfl) (fun h35=>?_) (fun h35=>nomatch h35)
       refine PX.G [(.e 2 (.imm 1 ((b.term.args.map (valD D)).map encI)))] [] 9 [.q (PX.Con Try.prog 96 [(.ptr 3 0),(.imm 1 (b.term.args.map encI))] [(3,.box 142 [(.J 0),.any,(.map 7),.any,.any,.any,.any,.any,.any,.any,.any]),(7,.mp (iv D))] 9 9 (.imm 1 ((b.term.args.map (valD D)).map encI)) [(3,some (.box 142 [(.J 0),.any,(.map 7),.any,.any,.any,.any,.any,.any,.any,.any])),(7,some (.mp (iv D)))])] [] [.au,.au,.au,.cl [3,7] (.imm 1 ((b.term.args.map (valD D)).map encI)) [(3,some (.box 142 [(.J 0),.any,(.map 7),.any,.any,.any,.any,.any,.any,.any,.any])),(7,some (.mp (iv D)))] 9,.au] [0,2,7,12] [1,3,4,5,7,8] hS hE ⟨PX.con_as [(3,2),(7,3)] [(2,3),(3,7)] (con_f96 D b.term.args (by omega)) (by kernel_rfl) (by kernel_rfl) (by kernel_rfl) (by kernel_rfl) (by kernel_rfl) (by kernel_rfl),trivial⟩ fun a w hS=>?_
       refine PX.G [] [(3,.box 142 [(.J 0),.any,(.map 7),.any,.any,.any,.any,(.J b.term.b0),(.imm 1 (b.term.args0.map encI)),(.J b.term.b1),(.imm 1 (b.term.args1.map encI))])] 9 [] [] [.au,.au,.au,.au,.au,.au] [0,2,12] [1,3,4,5,7,8] hS hE trivial fun a w hS=>?_
       replace hS:=PX.recell (id:=3) (j:=8) (.imm 1 ([])) hS rfl rfl rfl (fun _ _ _ _ h=>(show PX.PV.imm 1 (b.term.args0.map encI)=.imm 1 [] from by rw [hg0]; rfl) ▸ h)
       replace hS:=PX.recell (id:=3) (j:=10) (.imm 1 ([])) hS rfl rfl rfl (fun _ _ _ _ h=>(show PX.PV.imm 1 (b.term.args1.map encI)=.imm 1 [] from by rw [hg1]; rfl) ▸ h)
       replace hS:=PX.recell (id:=3) (j:=2) .any hS rfl rfl rfl (PX.any_of rfl)
       refine wp_seq_k fun K36 hK36=>?_
       refine PX.G [(.e 162 (.sc (.bool false)))] [] 9 [] [] [.au,.au,.au] [0,2,12,162] [1,3,4,5,8] hS hE trivial fun a w hS=>?_
       refine PX.cond_s false hS (by kernel_rfl) (fun h37=>nomatch h37) (fun h37=>?_)
       refine wp_skip ?_
       refine hK36 _ _ ?_
       replace hS:=PX.recell (id:=1) (j:=10) (.own 4 1 ((lrS ls++[[PX.PV.sc pv]]).length)) hS rfl rfl rfl (fun _ _ _ _ h=>(show PX.PV.own 4 1 ((lrS ls).length+1)=.own 4 1 (lrS ls++[[PX.PV.sc pv]]).length from by congr 1; simp) ▸ h)
       by_cases hfull:20≤stk.length+1
       ·skip
        rw [if_pos hfull] at hf; simp only [Option.some.injEq,Prod.mk.injEq] at hf; obtain ⟨rfl,rfl⟩:=hf
        refine wp_seq_k fun K38 hK38=>?_
        refine PX.G [(.e 184 (.sc (.bool true)))] [(1,.box 116 [(.sc (.slice none 0 0)),(.sc (.slice none 0 0)),(.sc (.slice none 0 0)),(.sc (.slice none 0 0)),(.imm 4 ([[(.J c.params),(.imm 10 (c.blocks.map encB)),(.imm 3 (c.contexts.map encR)),(.imm 3 ([]))]])),(.J steps),(.J 0),(.J 0),(.J n1),(.J e1),(.own 4 1 ((lrS ls++[[PX.PV.sc pv]]).length)),(.sc (.slice none 0 0)),(.J 5),(.sc (.bool false)),(.J val),(.sc (.slice none 0 0))])] 9 [.q (PX.Con Try.prog 94 [(.ptr 1 0),(.J 0),(.imm 1 ((b.term.args.map (valD D)).map encI))] [(1,.box 116 [(.sc (.slice none 0 0)),(.sc (.slice none 0 0)),(.sc (.slice none 0 0)),(.sc (.slice none 0 0)),(.imm 4 ([[(.J c.params),(.imm 10 (c.blocks.map encB)),(.imm 3 (c.contexts.map encR)),(.imm 3 ([]))]])),(.J steps),(.J 0),(.J 0),(.J n1),(.J e1),(.own 4 1 ((lrS ls++[[PX.PV.sc pv]]).length)),(.sc (.slice none 0 0)),(.J 0),(.sc (.bool false)),(.J val),(.sc (.slice none 0 0))]),(4,.row 138 1 true ((lrS ls)++[[PX.PV.sc pv]]))] 9 9 (.sc (.bool false)) [(1,some (.box 116 [(.sc (.slice none 0 0)),(.sc (.slice none 0 0)),(.sc (.slice none 0 0)),(.sc (.slice none 0 0)),(.imm 4 ([[(.J c.params),(.imm 10 (c.blocks.map encB)),(.imm 3 (c.contexts.map encR)),(.imm 3 ([]))]])),(.J steps),(.J 0),(.J 0),(.J n1),(.J e1),(.own 4 1 ((lrS ls++[[PX.PV.sc pv]]).length)),(.sc (.slice none 0 0)),(.J 5),(.sc (.bool false)),(.J val),(.sc (.slice none 0 0))])),(4,some (.row 138 1 true ((lrS ls)++[[PX.PV.sc pv]])))])] [] [.au,.au,.au,.au,.cl [1,4] (.sc (.bool false)) [(1,some (.box 116 [(.sc (.slice none 0 0)),(.sc (.slice none 0 0)),(.sc (.slice none 0 0)),(.sc (.slice none 0 0)),(.imm 4 ([[(.J c.params),(.imm 10 (c.blocks.map encB)),(.imm 3 (c.contexts.map encR)),(.imm 3 ([]))]])),(.J steps),(.J 0),(.J 0),(.J n1),(.J e1),(.own 4 1 ((lrS ls++[[PX.PV.sc pv]]).length)),(.sc (.slice none 0 0)),(.J 5),(.sc (.bool false)),(.J val),(.sc (.slice none 0 0))])),(4,some (.row 138 1 true ((lrS ls)++[[PX.PV.sc pv]])))] 9,.au] [0,2,184] [1,3,4,5] hS hE ⟨PX.con_as [(1,1),(4,4)] [(1,1),(4,4)] (con_f94n c steps n1 e1 val (b.term.args.map (valD D)) (lrS ls++[[PX.PV.sc pv]]) (by simp [lrS_len]; have:=hls.len; omega)) (by kernel_rfl) (by kernel_rfl) (by kernel_rfl) (by kernel_rfl) (by kernel_rfl) (by kernel_rfl),trivial⟩ fun a w hS=>?_
        refine PX.cond_s true hS (by kernel_rfl) (fun h39=>?_) (fun h39=>nomatch h39)
        refine wp_ret ?_
        replace hS:=PX.recell (id:=1) (j:=8) .any hS rfl rfl rfl (PX.any_of rfl)
        replace hS:=PX.recell (id:=1) (j:=9) .any hS rfl rfl rfl (PX.any_of rfl)
        replace hS:=PX.recell (id:=1) (j:=10) .any hS rfl rfl rfl (PX.any_of rfl)
        replace hS:=(hback _ _ _ _ _ _ hS).sat; have hE:=hEo
        exact PX.ret_s hS hE (by kernel_rfl) (by kernel_rfl) (by kernel_rfl) (by first | exact .inl rfl | exact .inr rfl)
       ·skip
        rw [if_neg hfull] at hf
        replace hS:=PX.sl [0,2,12] hS
        replace hS:=(PX.cn [(80,4)] [(.e 0 (.ptr 1 0)),(.e 2 (.imm 1 ((b.term.args.map (valD D)).map encI))),(.e 12 (.ptr 8 0))] [(1,.box 116 [(.sc (.slice none 0 0)),(.sc (.slice none 0 0)),(.sc (.slice none 0 0)),(.sc (.slice none 0 0)),(.imm 4 ([[(.J c.params),(.imm 10 (c.blocks.map encB)),(.imm 3 (c.contexts.map encR)),(.imm 3 ([]))]])),(.J steps),(.J 0),(.J 0),(.J n1),(.J e1),(.own 80 1 ((lrS ls++[[PX.PV.sc pv]]).length)),(.sc (.slice none 0 0)),(.J 0),(.sc (.bool false)),(.J val),(.sc (.slice none 0 0))]),(3,.box 142 [(.J 0),.any,.any,.any,.any,.any,.any,(.J b.term.b0),(.imm 1 ([])),(.J b.term.b1),(.imm 1 ([]))]),(5,.ty pv (.ptr 3 0)),(8,.box 60 [(.J 3),(.J b.term.a),(.J 0),(.imm 1 (b.term.args.map encI)),(.J b.term.b0),(.imm 1 (b.term.args0.map encI)),(.J b.term.b1),(.imm 1 (b.term.args1.map encI))]),(80,.row 138 1 true (lrS ls++[[PX.PV.sc pv]]))] 81 hS hE)
        refine wp_seq_k fun K40 hK40=>?_
        refine wp_seq_k fun K41 hK41=>?_
        replace hS:=(PX.cn [] [(.e 0 (.ptr 1 0)),(.e 2 (.imm 1 ((b.term.args.map (valD D)).map encI))),(.e 12 (.ptr 8 0))] [(1,.box 116 [(.sc (.slice none 0 0)),(.sc (.slice none 0 0)),(.sc (.slice none 0 0)),(.sc (.slice none 0 0)),(.imm 4 ([[(.J c.params),(.imm 10 (c.blocks.map encB)),(.imm 3 (c.contexts.map encR)),(.imm 3 ([]))]])),(.J steps),(.J 0),(.J 0),(.J n1),(.J e1),(.own 80 1 ((lrS ls++[[PX.PV.sc pv]]).length)),(.sc (.slice none 0 0)),(.J 0),(.sc (.bool false)),(.J val),(.sc (.slice none 0 0))]),(3,.box 142 [(.J 0),.any,.any,.any,.any,.any,.any,(.J b.term.b0),(.imm 1 ([])),(.J b.term.b1),(.imm 1 ([]))]),(5,.ty pv (.ptr 3 0)),(8,.box 60 [(.J 3),(.J b.term.a),(.J 0),(.imm 1 (b.term.args.map encI)),(.J b.term.b0),(.imm 1 (b.term.args0.map encI)),(.J b.term.b1),(.imm 1 (b.term.args1.map encI))]),(80,.row 138 1 true (lrS ls++[[PX.PV.sc pv]]))] 81 hS hE)
        refine wp_region_lit ?_
        obtain ⟨σ,Z,hr⟩:=hS
        refine PX.seq_sound (acc:=⟨(.e 182 (.imm 1 ((b.term.args.map (valD D)).map encI)))::(.e 181 (.J 0))::(.e 180 (.ptr 8 2))::(.e 179 (.ptr 1 0))::[(.e 0 (.ptr 1 0)),(.e 2 (.imm 1 ((b.term.args.map (valD D)).map encI))),(.e 12 (.ptr 8 0))],[(1,.box 116 [(.sc (.slice none 0 0)),(.sc (.slice none 0 0)),(.sc (.slice none 0 0)),(.sc (.slice none 0 0)),(.imm 4 ([[(.J c.params),(.imm 10 (c.blocks.map encB)),(.imm 3 (c.contexts.map encR)),(.imm 3 ([]))]])),(.J steps),(.J 0),(.J 0),(.J n1),(.J e1),(.own 80 1 ((lrS ls++[[PX.PV.sc pv]]).length)),(.sc (.slice none 0 0)),(.J 0),(.sc (.bool false)),(.J val),(.sc (.slice none 0 0))]),(3,.box 142 [(.J 0),.any,.any,.any,.any,.any,.any,(.J b.term.b0),(.imm 1 ([])),(.J b.term.b1),(.imm 1 ([]))]),(5,.ty pv (.ptr 3 0)),(8,.box 60 [(.J 3),(.J b.term.a),(.J 0),(.imm 1 (b.term.args.map encI)),(.J b.term.b0),(.imm 1 (b.term.args0.map encI)),(.J b.term.b1),(.imm 1 (b.term.args1.map encI))]),(80,.row 138 1 true (lrS ls++[[PX.PV.sc pv]]))],81,[],[]⟩) [_,_,_,_] [.au,.au,.au,.au] (by kernel_rfl) (show 81≤E.top from hE.le (by decide)) trivial trivial hr fun a w σ Z hr=>?_
        obtain ⟨v0,hv0,hu0⟩:=(hr.rs.at_ 179 _ rfl).1 rfl
        obtain ⟨v1,hv1,hu1⟩:=(hr.rs.at_ 181 _ rfl).1 rfl
        obtain ⟨v2,hv2,hu2⟩:=(hr.rs.at_ 182 _ rfl).1 rfl
        refine PX.wpl_callX [1,80] 183 [v0,v1,v2] rfl rfl rfl (by kernel_rfl) (by kernel_rfl) (by simp [Act.eval,hv0,hv1,hv2]) (con_f94 c steps n1 e1 val (b.term.args.map (valD D)) (lrS ls++[[PX.PV.sc pv]]) (by simp [lrS_len]; have:=hls.len; omega)) 84 (show (81:Nat)≤81 by decide) (show (81:Nat)≤84 by decide) (hE.le (by decide)) (hE.le (by decide)) hr (.cons hu0 (.cons hu1 (.cons hu2 .nil))) (fun _=>by kernel_rfl) fun pv2 a w σ Z _ hr=>?_
        refine PX.seq_sound (acc:=⟨⟨184,[],.sc (.bool false)⟩::⟨183,[],.sc (.bool true)⟩::(.e 182 (.imm 1 ((b.term.args.map (valD D)).map encI)))::(.e 181 (.J 0))::(.e 180 (.ptr 8 2))::(.e 179 (.ptr 1 0))::[(.e 0 (.ptr 1 0)),(.e 2 (.imm 1 ((b.term.args.map (valD D)).map encI))),(.e 12 (.ptr 8 0))],[(1,.box 116 [(.sc (.slice none 0 0)),(.sc (.slice none 0 0)),(.sc (.slice none 0 0)),(.sc (.slice none 0 0)),(.imm 4 ([[(.J c.params),(.imm 10 (c.blocks.map encB)),(.imm 3 (c.contexts.map encR)),(.imm 3 ([]))]])),(.J steps),(.J 0),(.J 0),(.J n1),(.J e1),(.own 81 1 ((lrS ls++[[PX.PV.sc pv]]).length+1)),(.sc (.slice none 0 0)),(.J 0),(.sc (.bool false)),(.J val),(.sc (.slice none 0 0))]),(81,.row 138 1 true ((lrS ls++[[PX.PV.sc pv]])++[[(.sc (pv2))]])),(82,.box 142 [(.J 0),.any,.any,.any,.any,.any,.any,.any,.any,.any,.any]),(83,.ty pv2 (.ptr 82 0)),(3,.box 142 [(.J 0),.any,.any,.any,.any,.any,.any,(.J b.term.b0),(.imm 1 ([])),(.J b.term.b1),(.imm 1 ([]))]),(5,.ty pv (.ptr 3 0)),(8,.box 60 [(.J 3),(.J b.term.a),(.J 0),(.imm 1 (b.term.args.map encI)),(.J b.term.b0),(.imm 1 (b.term.args0.map encI)),(.J b.term.b1),(.imm 1 (b.term.args1.map encI))])],84,[],[]⟩) [_] [.au] (by kernel_rfl) (show 84≤E.top from hE.le (by decide)) trivial trivial hr fun a w σ Z hr=>?_
        show K41 a w
        refine hK41 _ _ ?_
        have hS:=PX.sl (E:=E) (N:=185) [0,2,184] ⟨σ,Z,hr⟩
        clear hr hu0 hu1 hu2 hv0 hv1 hv2
        replace hS:=(PX.cn [] [(.e 0 (.ptr 1 0)),(.e 2 (.imm 1 ((b.term.args.map (valD D)).map encI))),(.e 184 (.sc (.bool false)))] [(1,.box 116 [(.sc (.slice none 0 0)),(.sc (.slice none 0 0)),(.sc (.slice none 0 0)),(.sc (.slice none 0 0)),(.imm 4 ([[(.J c.params),(.imm 10 (c.blocks.map encB)),(.imm 3 (c.contexts.map encR)),(.imm 3 ([]))]])),(.J steps),(.J 0),(.J 0),(.J n1),(.J e1),(.own 81 1 ((lrS ls++[[PX.PV.sc pv]]).length+1)),(.sc (.slice none 0 0)),(.J 0),(.sc (.bool false)),(.J val),(.sc (.slice none 0 0))]),(3,.box 142 [(.J 0),.any,.any,.any,.any,.any,.any,(.J b.term.b0),(.imm 1 ([])),(.J b.term.b1),(.imm 1 ([]))]),(5,.ty pv (.ptr 3 0)),(8,.box 60 [(.J 3),(.J b.term.a),(.J 0),(.imm 1 (b.term.args.map encI)),(.J b.term.b0),(.imm 1 (b.term.args0.map encI)),(.J b.term.b1),(.imm 1 (b.term.args1.map encI))]),(81,.row 138 1 true ((lrS ls++[[PX.PV.sc pv]])++[[(.sc (pv2))]])),(82,.box 142 [(.J 0),.any,.any,.any,.any,.any,.any,.any,.any,.any,.any]),(83,.ty pv2 (.ptr 82 0))] 84 hS hE)
        refine PX.cond_s false hS (by kernel_rfl) (fun h42=>nomatch h42) (fun h42=>?_)
        refine wp_skip ?_
        refine hK40 _ _ ?_
        refine PX.G0 [(.e 6 (.J 0))] [] 84 [] [] [.au] [0,2,6] [1,3,5,81,82,83] hS hE trivial fun a w hS=>?_
        replace hS:=PX.sl [0,2,6] hS; have hL:=hback _ _ _ _ _ _ hS
        obtain ⟨b1,rfl,hL⟩:=hL.shut (A:=3) (g:=5) (xs:=lowC b.term.b0 b.term.b1) rfl rfl (by kernel_rfl) [1,81,82,83] (by kernel_rfl)
        exact ⟨m,by omega,0,(b.term.args.map (valD D)),n1,e1,val,((b.term.b0,b.term.b1)::stk),((b1,lowC b.term.b0 b.term.b1)::ls),hf,by simp; omega,hls.push b1 _ _ hfull,.inl ⟨pv2,(hL.canon [(3,82),(4,81),(5,83)] _ _ 6 hEo (by kernel_rfl) (by kernel_rfl) (by kernel_rfl))⟩⟩
      ·skip
       replace hS:=PX.recell (id:=8) (j:=0) (.sc (.I 4)) hS rfl rfl rfl (fun _ _ _ _ h=>(show PX.PV.sc (.I b.term.kind)=.sc (.I 4) from by rw [ht]) ▸ h)
       rw [if_neg (by omega),if_neg (by omega),if_neg (by omega),if_neg (by omega),if_pos ht] at hf
       rcases stk with _ | ⟨p,stk⟩
       ·skip
        have hls0:=hls.nil
        simp only [byStk] at hf
        refine PX.G [(.e 104 (.J 4))] [] 9 [] [] [.au,.au] [0,7,12,104] [1,3,4,5,7,8] hS hE trivial fun a w hS=>?_
        refine wp_block ?_
        refine wp_seq_k fun K43 hK43=>?_
        refine PX.G [(.e 120 (.sc (.bool false)))] [] 9 [] [] [.au,.au] [0,7,12,104,120] [1,3,4,5,7,8] hS hE trivial fun a w hS=>?_
        refine PX.cond_s false hS (by kernel_rfl) (fun h44=>nomatch h44) (fun h44=>?_)
        refine PX.G0 [(.e 120 (.sc (.bool false)))] [] 9 [] [] [.au,.au] [0,7,12,104,120] [1,3,4,5,7,8] hS hE trivial fun a w hS=>?_
        refine hK43 _ _ ?_
        refine PX.cond_s false hS (by kernel_rfl) (fun h45=>nomatch h45) (fun h45=>?_)
        refine wp_seq_k fun K46 hK46=>?_
        refine PX.G [(.e 148 (.sc (.bool false)))] [] 9 [] [] [.au,.au] [0,7,12,104,148] [1,3,4,5,7,8] hS hE trivial fun a w hS=>?_
        refine PX.cond_s false hS (by kernel_rfl) (fun h47=>nomatch h47) (fun h47=>?_)
        refine PX.G0 [(.e 148 (.sc (.bool false)))] [] 9 [] [] [.au,.au] [0,7,12,148] [1,3,4,5,7,8] hS hE trivial fun a w hS=>?_
        refine hK46 _ _ ?_
        refine PX.cond_s false hS (by kernel_rfl) (fun h48=>nomatch h48) (fun h48=>?_)
        refine PX.D0 [(.e 2 (.sc (.slice none 0 0))),(.e 6 (.sc (.I (-1))))] [(1,.box 116 [(.sc (.slice none 0 0)),(.sc (.slice none 0 0)),(.sc (.slice none 0 0)),(.sc (.slice none 0 0)),(.imm 4 ([[(.J c.params),(.imm 10 (c.blocks.map encB)),(.imm 3 (c.contexts.map encR)),(.imm 3 ([]))]])),(.J steps),(.J 0),(.J 0),(.J n1),(.J e1),.any,(.sc (.slice none 0 0)),(.J 0),(.sc (.bool false)),(.sc (.I (valD D b.term.a))),(.sc (.slice none 0 0))])] 9 [.q ((.sc ((PX.findV (iv D) b.term.a).getD (.I 0)):PX.PV)=(.sc (.I (valD D b.term.a)))),.q (PX.Con Try.prog 97 [(.ptr 1 0),(.sc (.I (valD D b.term.a))),(.sc (.bool false))] [(1,.box 116 [(.sc (.slice none 0 0)),(.sc (.slice none 0 0)),(.sc (.slice none 0 0)),(.sc (.slice none 0 0)),(.imm 4 ([[(.J c.params),(.imm 10 (c.blocks.map encB)),(.imm 3 (c.contexts.map encR)),(.imm 3 ([]))]])),(.J steps),(.J 0),(.J 0),(.J n1),(.J e1),(.own 4 1 ((lrS ls).length+1)),(.sc (.slice none 0 0)),(.J 0),(.sc (.bool false)),(.J val),(.sc (.slice none 0 0))]),(4,.row 138 1 true ((lrS ls)++[[PX.PV.sc pv]]))] 9 9 (.tup [(.sc (.I (-1))),(.sc (.slice none 0 0))]) [(1,some (.box 116 [(.sc (.slice none 0 0)),(.sc (.slice none 0 0)),(.sc (.slice none 0 0)),(.sc (.slice none 0 0)),(.imm 4 ([[(.J c.params),(.imm 10 (c.blocks.map encB)),(.imm 3 (c.contexts.map encR)),(.imm 3 ([]))]])),(.J steps),(.J 0),(.J 0),(.J n1),(.J e1),.any,(.sc (.slice none 0 0)),(.J 0),(.sc (.bool false)),(.sc (.I (valD D b.term.a))),(.sc (.slice none 0 0))])),(4,none)])] [] [.au,.au,.au,.au,.au,.au,.au,.nm (.sc (.I (valD D b.term.a))),.au,.au,.au,.cl [1,4] (.tup [(.sc (.I (-1))),(.sc (.slice none 0 0))]) [(1,some (.box 116 [(.sc (.slice none 0 0)),(.sc (.slice none 0 0)),(.sc (.slice none 0 0)),(.sc (.slice none 0 0)),(.imm 4 ([[(.J c.params),(.imm 10 (c.blocks.map encB)),(.imm 3 (c.contexts.map encR)),(.imm 3 ([]))]])),(.J steps),(.J 0),(.J 0),(.J n1),(.J e1),.any,(.sc (.slice none 0 0)),(.J 0),(.sc (.bool false)),(.sc (.I (valD D b.term.a))),(.sc (.slice none 0 0))])),(4,none)] 9,.au,.au,.au,.au,.au] [0,2,6] [1,3,5,7] hS mixed hE ⟨look_iv D b.term.a,PX.con_as [(1,1),(4,4)] [(1,1),(4,4)] (con_f97a c steps n1 e1 val (valD D b.term.a) (lrS ls) pv (by rw [hls0]; rfl) (by omega)) (by kernel_rfl) (by kernel_rfl) (by kernel_rfl) (by kernel_rfl) (by kernel_rfl) (by kernel_rfl),trivial⟩ fun a w hS=>?_
        replace hS:=PX.sl [0,6] hS; have hL:=hback _ _ _ _ _ _ hS
        exact ⟨m,by omega,(-1),[],n1,e1,(valD D b.term.a),[],[],hf,by simp,⟨rfl,by simp⟩,.inr ⟨rfl,(hL.canon [] _ _ 6 hEo (by kernel_rfl) (by kernel_rfl) (by kernel_rfl)).sat⟩⟩
       ·skip
        obtain ⟨bx,l,rfl,hls2⟩:=hls.pop
        simp only [byStk] at hf
        have hp0:0≤p.1:=Int.not_lt.1 fun h=>by rw [if_pos h] at hf; cases hf
        rw [if_neg (by omega)] at hf
        have hL:=(hback _ _ _ _ _ _ hS).opn (by rw [hEo.etop]; decide)
        clear hback hS hE
        obtain ⟨E,hE,hS,hback⟩:=hL.nest hEo.etop
        clear hL
        replace hS:=(PX.cn [] [(.e 0 (.ptr 1 0)),(.e 7 (.ptr 3 0)),(.e 12 (.ptr 8 0))] [(1,.box 116 [(.sc (.slice none 0 0)),(.sc (.slice none 0 0)),(.sc (.slice none 0 0)),(.sc (.slice none 0 0)),(.imm 4 ([[(.J c.params),(.imm 10 (c.blocks.map encB)),(.imm 3 (c.contexts.map encR)),(.imm 3 ([]))]])),(.J steps),(.J 0),(.J 0),(.J n1),(.J e1),(.own 4 1 ((lrS l++[[PX.PV.sc (.P bx)]]).length+1)),(.sc (.slice none 0 0)),(.J 0),(.sc (.bool false)),(.J val),(.sc (.slice none 0 0))]),(3,.box 142 [(.J 0),.any,(.map 7),.any,.any,.any,.any,.any,.any,.any,.any]),(4,.row 138 1 true ((lrS l++[[PX.PV.sc (.P bx)]])++[[PX.PV.sc pv]])),(5,.ty pv (.ptr 3 0)),(7,.mp (iv D)),(8,.box 60 [(.J 4),(.J b.term.a),(.J b.term.n),(.imm 1 (b.term.args.map encI)),(.J b.term.b0),(.imm 1 (b.term.args0.map encI)),(.J b.term.b1),(.imm 1 (b.term.args1.map encI))]),(9,.box 142 [(.J 0),.any,.any,.any,.any,.any,.any,(.J p.1),(.imm 1 ([])),(.J p.2),(.imm 1 ([]))]),(10,.ty (.P bx) (.ptr 9 0))] 11 hS hE)
        refine PX.G [(.e 104 (.J 4))] [] 11 [] [] [.au,.au] [0,7,12,104] [1,3,4,5,7,8,9,10] hS hE trivial fun a w hS=>?_
        refine wp_block ?_
        refine wp_seq_k fun K49 hK49=>?_
        refine PX.G [(.e 120 (.sc (.bool false)))] [] 11 [] [] [.au,.au] [0,7,12,104,120] [1,3,4,5,7,8,9,10] hS hE trivial fun a w hS=>?_
        refine PX.cond_s false hS (by kernel_rfl) (fun h50=>nomatch h50) (fun h50=>?_)
        refine PX.G0 [(.e 120 (.sc (.bool false)))] [] 11 [] [] [.au,.au] [0,7,12,104,120] [1,3,4,5,7,8,9,10] hS hE trivial fun a w hS=>?_
        refine hK49 _ _ ?_
        refine PX.cond_s false hS (by kernel_rfl) (fun h51=>nomatch h51) (fun h51=>?_)
        refine wp_seq_k fun K52 hK52=>?_
        refine PX.G [(.e 148 (.sc (.bool false)))] [] 11 [] [] [.au,.au] [0,7,12,104,148] [1,3,4,5,7,8,9,10] hS hE trivial fun a w hS=>?_
        refine PX.cond_s false hS (by kernel_rfl) (fun h53=>nomatch h53) (fun h53=>?_)
        refine PX.G0 [(.e 148 (.sc (.bool false)))] [] 11 [] [] [.au,.au] [0,7,12,148] [1,3,4,5,7,8,9,10] hS hE trivial fun a w hS=>?_
        refine hK52 _ _ ?_
        refine PX.cond_s false hS (by kernel_rfl) (fun h54=>nomatch h54) (fun h54=>?_)
        refine PX.D0 [(.e 2 (.own 12 1 1)),(.e 6 (.J p.1))] [(1,.box 116 [(.sc (.slice none 0 0)),(.sc (.slice none 0 0)),(.sc (.slice none 0 0)),(.sc (.slice none 0 0)),(.imm 4 ([[(.J c.params),(.imm 10 (c.blocks.map encB)),(.imm 3 (c.contexts.map encR)),(.imm 3 ([]))]])),(.J steps),(.J 0),(.J 0),(.J n1),(.J e1),(.own 11 1 ((lrS l++[[PX.PV.sc (.P bx)]]).length)),(.sc (.slice none 0 0)),(.J 0),(.sc (.bool false)),(.J val),(.sc (.slice none 0 0))]),(11,.row 138 1 true (lrS l++[[PX.PV.sc (.P bx)]])),(12,.row 3 1 true ([[(.sc (.I (valD D b.term.a)))]]))] 13 [.q ((.sc ((PX.findV (iv D) b.term.a).getD (.I 0)):PX.PV)=(.sc (.I (valD D b.term.a)))),.q (PX.Con Try.prog 97 [(.ptr 1 0),(.sc (.I (valD D b.term.a))),(.sc (.bool false))] [(1,.box 116 [(.sc (.slice none 0 0)),(.sc (.slice none 0 0)),(.sc (.slice none 0 0)),(.sc (.slice none 0 0)),(.imm 4 ([[(.J c.params),(.imm 10 (c.blocks.map encB)),(.imm 3 (c.contexts.map encR)),(.imm 3 ([]))]])),(.J steps),(.J 0),(.J 0),(.J n1),(.J e1),(.own 4 1 ((lrS l++[[PX.PV.sc (.P bx)]]).length+1)),(.sc (.slice none 0 0)),(.J 0),(.sc (.bool false)),(.J val),(.sc (.slice none 0 0))]),(9,.box 142 [(.J 0),.any,.any,.any,.any,.any,.any,(.J p.1),(.imm 1 ([])),(.J p.2),(.imm 1 ([]))]),(10,.ty (.P bx) (.ptr 9 0)),(4,.row 138 1 true ((lrS l++[[PX.PV.sc (.P bx)]])++[[PX.PV.sc pv]]))] 11 13 (.tup [(.J p.1),(.own 12 1 1)]) [(1,some (.box 116 [(.sc (.slice none 0 0)),(.sc (.slice none 0 0)),(.sc (.slice none 0 0)),(.sc (.slice none 0 0)),(.imm 4 ([[(.J c.params),(.imm 10 (c.blocks.map encB)),(.imm 3 (c.contexts.map encR)),(.imm 3 ([]))]])),(.J steps),(.J 0),(.J 0),(.J n1),(.J e1),(.own 11 1 ((lrS l++[[PX.PV.sc (.P bx)]]).length)),(.sc (.slice none 0 0)),(.J 0),(.sc (.bool false)),(.J val),(.sc (.slice none 0 0))])),(9,some (.box 142 [(.J 0),.any,.any,.any,.any,.any,.any,(.J p.1),(.imm 1 ([])),(.J p.2),(.imm 1 ([]))])),(10,some (.ty (.P bx) (.ptr 9 0))),(4,none),(11,some (.row 138 1 true (lrS l++[[PX.PV.sc (.P bx)]]))),(12,some (.row 3 1 true ([[(.sc (.I (valD D b.term.a)))]])))])] [] [.au,.au,.au,.au,.au,.au,.au,.nm (.sc (.I (valD D b.term.a))),.au,.au,.au,.cl [1,9,10,4] (.tup [(.J p.1),(.own 12 1 1)]) [(1,some (.box 116 [(.sc (.slice none 0 0)),(.sc (.slice none 0 0)),(.sc (.slice none 0 0)),(.sc (.slice none 0 0)),(.imm 4 ([[(.J c.params),(.imm 10 (c.blocks.map encB)),(.imm 3 (c.contexts.map encR)),(.imm 3 ([]))]])),(.J steps),(.J 0),(.J 0),(.J n1),(.J e1),(.own 11 1 ((lrS l++[[PX.PV.sc (.P bx)]]).length)),(.sc (.slice none 0 0)),(.J 0),(.sc (.bool false)),(.J val),(.sc (.slice none 0 0))])),(9,some (.box 142 [(.J 0),.any,.any,.any,.any,.any,.any,(.J p.1),(.imm 1 ([])),(.J p.2),(.imm 1 ([]))])),(10,some (.ty (.P bx) (.ptr 9 0))),(4,none),(11,some (.row 138 1 true (lrS l++[[PX.PV.sc (.P bx)]]))),(12,some (.row 3 1 true ([[(.sc (.I (valD D b.term.a)))]])))] 13,.au,.au,.au,.au,.au] [0,2,6] [1,3,5,7,9,10,11,12] hS mixed hE ⟨look_iv D b.term.a,PX.con_as [(1,1),(9,2),(10,3),(4,4),(11,5),(12,6)] [(1,1),(2,9),(3,10),(4,4),(5,11),(6,12)] (con_f97b c steps n1 e1 val (valD D b.term.a) (lrS l) pv (.P bx) p.1 p.2 hp0 (by rw [lrS_len]; have:=hls2.2; omega)) (by kernel_rfl) (by kernel_rfl) (by kernel_rfl) (by kernel_rfl) (by kernel_rfl) (by kernel_rfl),trivial⟩ fun a w hS=>?_
        replace hS:=PX.fz 12 [(.e 2 (.imm 1 ([[(.sc (.I (valD D b.term.a)))]])))] [] [0,2,6] [1,3,5,7,9,10,11] [.b (PX.lenIs 1 ([[(.sc (.I (valD D b.term.a)))]]))] hS ⟨(by simp [PX.lenIs]),trivial⟩
        replace hS:=PX.sl [0,2,6] (PX.reslot (t:=2) (.imm 1 ([valD D b.term.a].map encI)) hS rfl (fun _ _ _ _ h=>h))
        replace hS:=PX.recell (id:=1) (j:=10) (.own 11 1 ((lrS l).length+1)) hS rfl rfl rfl (fun _ _ _ _ h=>(show PX.PV.own 11 1 ((lrS l++[[PX.PV.sc (.P bx)]]).length)=.own 11 1 ((lrS l).length+1) from by congr 1; simp) ▸ h)
        replace hS:=PX.recell (id:=9) (j:=7) .any hS rfl rfl rfl (PX.any_of rfl)
        replace hS:=PX.recell (id:=9) (j:=8) .any hS rfl rfl rfl (PX.any_of rfl)
        replace hS:=PX.recell (id:=9) (j:=9) .any hS rfl rfl rfl (PX.any_of rfl)
        replace hS:=PX.recell (id:=9) (j:=10) .any hS rfl rfl rfl (PX.any_of rfl)
        replace hS:=PX.sl [0,2,6] hS; have hL:=hback _ _ _ _ _ _ hS
        exact ⟨m,by omega,p.1,[valD D b.term.a],n1,e1,val,stk,l,hf,by simp,hls2,.inl ⟨(.P bx),(hL.canon [(3,9),(4,11),(5,10)] _ _ 6 hEo (by kernel_rfl) (by kernel_rfl) (by kernel_rfl))⟩⟩
      ·skip
       obtain ⟨hn0,hpar,hg0,hg1⟩:=hs.call b hbm (by omega)
       replace hS:=PX.recell (id:=8) (j:=0) (.sc (.I 6)) hS rfl rfl rfl (fun _ _ _ _ h=>(show PX.PV.sc (.I b.term.kind)=.sc (.I 6) from by rw [ht]) ▸ h)
       replace hS:=PX.recell (id:=8) (j:=2) (.sc (.I 0)) hS rfl rfl rfl (fun _ _ _ _ h=>(show PX.PV.sc (.I b.term.n)=.sc (.I 0) from by rw [hn0]) ▸ h)
       rw [if_neg (by omega),if_neg (by omega),if_neg (by omega),if_pos ht] at hf
       refine PX.G [(.e 104 (.J 6))] [] 9 [] [] [.au,.au] [0,7,12,104] [1,3,4,5,7,8] hS hE trivial fun a w hS=>?_
       refine wp_block ?_
       refine wp_seq_k fun K55 hK55=>?_
       refine PX.G [(.e 120 (.sc (.bool false)))] [] 9 [] [] [.au,.au] [0,7,12,104,120] [1,3,4,5,7,8] hS hE trivial fun a w hS=>?_
       refine PX.cond_s false hS (by kernel_rfl) (fun h56=>nomatch h56) (fun h56=>?_)
       refine PX.G0 [(.e 120 (.sc (.bool false)))] [] 9 [] [] [.au,.au] [0,7,12,104,120] [1,3,4,5,7,8] hS hE trivial fun a w hS=>?_
       refine hK55 _ _ ?_
       refine PX.cond_s false hS (by kernel_rfl) (fun h57=>nomatch h57) (fun h57=>?_)
       refine wp_seq_k fun K58 hK58=>?_
       refine PX.G [(.e 148 (.sc (.bool false)))] [] 9 [] [] [.au,.au] [0,7,12,104,148] [1,3,4,5,7,8] hS hE trivial fun a w hS=>?_
       refine PX.cond_s false hS (by kernel_rfl) (fun h59=>nomatch h59) (fun h59=>?_)
       refine PX.G0 [(.e 148 (.sc (.bool true)))] [] 9 [] [] [.au,.au] [0,7,12,148] [1,3,4,5,7,8] hS hE trivial fun a w hS=>?_
       refine hK58 _ _ ?_
       refine PX.cond_s true hS (by kernel_rfl) (fun h60=>?_) (fun h60=>nomatch h60)
       refine PX.G [(.e 2 (.imm 1 ((b.term.args.map (valD D)).map encI)))] [] 9 [.q (PX.Con Try.prog 96 [(.ptr 3 0),(.imm 1 (b.term.args.map encI))] [(3,.box 142 [(.J 0),.any,(.map 7),.any,.any,.any,.any,.any,.any,.any,.any]),(7,.mp (iv D))] 9 9 (.imm 1 ((b.term.args.map (valD D)).map encI)) [(3,some (.box 142 [(.J 0),.any,(.map 7),.any,.any,.any,.any,.any,.any,.any,.any])),(7,some (.mp (iv D)))])] [] [.au,.au,.au,.cl [3,7] (.imm 1 ((b.term.args.map (valD D)).map encI)) [(3,some (.box 142 [(.J 0),.any,(.map 7),.any,.any,.any,.any,.any,.any,.any,.any])),(7,some (.mp (iv D)))] 9,.au] [0,2,7,12] [1,3,4,5,7,8] hS hE ⟨PX.con_as [(3,2),(7,3)] [(2,3),(3,7)] (con_f96 D b.term.args (by omega)) (by kernel_rfl) (by kernel_rfl) (by kernel_rfl) (by kernel_rfl) (by kernel_rfl) (by kernel_rfl),trivial⟩ fun a w hS=>?_
       refine PX.G [] [(3,.box 142 [(.J 0),.any,(.map 7),.any,.any,.any,.any,(.J b.term.b0),(.imm 1 (b.term.args0.map encI)),(.J b.term.b1),(.imm 1 (b.term.args1.map encI))])] 9 [] [] [.au,.au,.au,.au,.au,.au] [0,2,12] [1,3,4,5,7,8] hS hE trivial fun a w hS=>?_
       replace hS:=PX.recell (id:=3) (j:=8) (.imm 1 ([])) hS rfl rfl rfl (fun _ _ _ _ h=>(show PX.PV.imm 1 (b.term.args0.map encI)=.imm 1 [] from by rw [hg0]; rfl) ▸ h)
       replace hS:=PX.recell (id:=3) (j:=10) (.imm 1 ([])) hS rfl rfl rfl (fun _ _ _ _ h=>(show PX.PV.imm 1 (b.term.args1.map encI)=.imm 1 [] from by rw [hg1]; rfl) ▸ h)
       replace hS:=PX.recell (id:=3) (j:=2) .any hS rfl rfl rfl (PX.any_of rfl)
       refine wp_seq_k fun K61 hK61=>?_
       refine PX.G [(.e 162 (.sc (.bool true)))] [] 9 [] [] [.au,.au,.au] [0,2,12,162] [1,3,4,5,8] hS hE trivial fun a w hS=>?_
       refine PX.cond_s true hS (by kernel_rfl) (fun h62=>?_) (fun h62=>nomatch h62)
       replace hS:=PX.fz 4 [] [(1,.box 116 [(.sc (.slice none 0 0)),(.sc (.slice none 0 0)),(.sc (.slice none 0 0)),(.sc (.slice none 0 0)),(.imm 4 ([[(.J c.params),(.imm 10 (c.blocks.map encB)),(.imm 3 (c.contexts.map encR)),(.imm 3 ([]))]])),(.J steps),(.J 0),(.J 0),(.J n1),(.J e1),(.imm 1 ((lrS ls)++[[PX.PV.sc pv]])),(.sc (.slice none 0 0)),(.J 0),(.sc (.bool false)),(.J val),(.sc (.slice none 0 0))])] [0,2,12,162] [1,3,5,8] [.b (PX.lenIs ((lrS ls).length+1) ((lrS ls)++[[PX.PV.sc pv]]))] hS ⟨(by simp [PX.lenIs]),trivial⟩
       refine PX.D0 [] [(1,.box 116 [(.sc (.slice none 0 0)),(.sc (.slice none 0 0)),(.sc (.slice none 0 0)),(.sc (.slice none 0 0)),(.imm 4 ([[(.J c.params),(.imm 10 (c.blocks.map encB)),(.imm 3 (c.contexts.map encR)),(.imm 3 ([]))]])),(.J steps),(.J 0),(.J 0),(.J n1),(.J e1),(.own 10 1 (0+(lrS ls).length)),(.sc (.slice none 0 0)),(.J 0),(.sc (.bool false)),(.J val),(.sc (.slice none 0 0))]),(10,.row 138 1 true (lrS ls))] 11 [.q ((.sc (.I ((((lrS ls)++[[PX.PV.sc pv]]).length:Nat):Int)):PX.PV)=(.sc (.I ((((lrS ls).length+1):Nat):Int)))),.q ((.sc (.I (IntKind.i64.wrap (((((lrS ls).length+1):Nat):Int)-1))):PX.PV)=(.sc (.I (((lrS ls).length:Nat):Int)))),.q ((0:Nat)≤(lrS ls).length),.q ((lrS ls).length≤((lrS ls)++[[PX.PV.sc pv]]).length),.q ((((lrS ls)++[[PX.PV.sc pv]]).take ((lrS ls).length)).drop 0=(lrS ls)),.q ((0:Nat)=0),.q ((((lrS ls).length:Nat):Int)=(((lrS ls).length:Nat):Int)),.b (lenIs 0 ([])),.b true,.b (Nat.ble (0+(lrS ls).length) 1000000000)] [] [.au,.au,.au,.au,.au,.au,.au,.au,.au,.au,.nm (.sc (.I ((((lrS ls).length+1):Nat):Int))),.nm (.sc (.I (((lrS ls).length:Nat):Int))),.sl 0 ((lrS ls).length) (lrS ls),.au,.au,.au,.au] [0,2,12] [1,3,5,8,10] hS mixed hE ⟨PX.nm_len (by simp),PX.nm_int (by simp; rw [IntWalk.i64_in _ (by omega)]; try omega),Nat.zero_le _,by simp,by rw [List.drop_zero]; exact List.take_left' rfl,rfl,rfl,rfl,rfl,by simp; omega,trivial⟩ fun a w hS=>?_
       refine hK61 _ _ ?_
       replace hS:=PX.recell (id:=1) (j:=10) (.own 10 1 ((lrS ls).length)) hS rfl rfl rfl (fun _ _ _ _ h=>(show PX.PV.own 10 1 (0+(lrS ls).length)=.own 10 1 (lrS ls).length from by congr 1; simp) ▸ h)
       replace hS:=(PX.cn [(80,10)] [(.e 0 (.ptr 1 0)),(.e 2 (.imm 1 ((b.term.args.map (valD D)).map encI))),(.e 12 (.ptr 8 0))] [(1,.box 116 [(.sc (.slice none 0 0)),(.sc (.slice none 0 0)),(.sc (.slice none 0 0)),(.sc (.slice none 0 0)),(.imm 4 ([[(.J c.params),(.imm 10 (c.blocks.map encB)),(.imm 3 (c.contexts.map encR)),(.imm 3 ([]))]])),(.J steps),(.J 0),(.J 0),(.J n1),(.J e1),(.own 80 1 ((lrS ls).length)),(.sc (.slice none 0 0)),(.J 0),(.sc (.bool false)),(.J val),(.sc (.slice none 0 0))]),(3,.box 142 [(.J 0),.any,.any,.any,.any,.any,.any,(.J b.term.b0),(.imm 1 ([])),(.J b.term.b1),(.imm 1 ([]))]),(5,.ty pv (.ptr 3 0)),(8,.box 60 [(.J 6),(.J b.term.a),(.J 0),(.imm 1 (b.term.args.map encI)),(.J b.term.b0),(.imm 1 (b.term.args0.map encI)),(.J b.term.b1),(.imm 1 (b.term.args1.map encI))]),(80,.row 138 1 true (lrS ls))] 81 hS hE)
       refine wp_seq_k fun K63 hK63=>?_
       refine wp_seq_k fun K64 hK64=>?_
       replace hS:=(PX.cn [] [(.e 0 (.ptr 1 0)),(.e 2 (.imm 1 ((b.term.args.map (valD D)).map encI))),(.e 12 (.ptr 8 0))] [(1,.box 116 [(.sc (.slice none 0 0)),(.sc (.slice none 0 0)),(.sc (.slice none 0 0)),(.sc (.slice none 0 0)),(.imm 4 ([[(.J c.params),(.imm 10 (c.blocks.map encB)),(.imm 3 (c.contexts.map encR)),(.imm 3 ([]))]])),(.J steps),(.J 0),(.J 0),(.J n1),(.J e1),(.own 80 1 ((lrS ls).length)),(.sc (.slice none 0 0)),(.J 0),(.sc (.bool false)),(.J val),(.sc (.slice none 0 0))]),(3,.box 142 [(.J 0),.any,.any,.any,.any,.any,.any,(.J b.term.b0),(.imm 1 ([])),(.J b.term.b1),(.imm 1 ([]))]),(5,.ty pv (.ptr 3 0)),(8,.box 60 [(.J 6),(.J b.term.a),(.J 0),(.imm 1 (b.term.args.map encI)),(.J b.term.b0),(.imm 1 (b.term.args0.map encI)),(.J b.term.b1),(.imm 1 (b.term.args1.map encI))]),(80,.row 138 1 true (lrS ls))] 81 hS hE)
       refine wp_region_lit ?_
       obtain ⟨σ,Z,hr⟩:=hS
       refine PX.seq_sound (acc:=⟨(.e 182 (.imm 1 ((b.term.args.map (valD D)).map encI)))::(.e 181 (.J 0))::(.e 180 (.ptr 8 2))::(.e 179 (.ptr 1 0))::[(.e 0 (.ptr 1 0)),(.e 2 (.imm 1 ((b.term.args.map (valD D)).map encI))),(.e 12 (.ptr 8 0))],[(1,.box 116 [(.sc (.slice none 0 0)),(.sc (.slice none 0 0)),(.sc (.slice none 0 0)),(.sc (.slice none 0 0)),(.imm 4 ([[(.J c.params),(.imm 10 (c.blocks.map encB)),(.imm 3 (c.contexts.map encR)),(.imm 3 ([]))]])),(.J steps),(.J 0),(.J 0),(.J n1),(.J e1),(.own 80 1 ((lrS ls).length)),(.sc (.slice none 0 0)),(.J 0),(.sc (.bool false)),(.J val),(.sc (.slice none 0 0))]),(3,.box 142 [(.J 0),.any,.any,.any,.any,.any,.any,(.J b.term.b0),(.imm 1 ([])),(.J b.term.b1),(.imm 1 ([]))]),(5,.ty pv (.ptr 3 0)),(8,.box 60 [(.J 6),(.J b.term.a),(.J 0),(.imm 1 (b.term.args.map encI)),(.J b.term.b0),(.imm 1 (b.term.args0.map encI)),(.J b.term.b1),(.imm 1 (b.term.args1.map encI))]),(80,.row 138 1 true (lrS ls))],81,[],[]⟩) [_,_,_,_] [.au,.au,.au,.au] (by kernel_rfl) (show 81≤E.top from hE.le (by decide)) trivial trivial hr fun a w σ Z hr=>?_
       obtain ⟨v0,hv0,hu0⟩:=(hr.rs.at_ 179 _ rfl).1 rfl
       obtain ⟨v1,hv1,hu1⟩:=(hr.rs.at_ 181 _ rfl).1 rfl
       obtain ⟨v2,hv2,hu2⟩:=(hr.rs.at_ 182 _ rfl).1 rfl
       refine PX.wpl_callX [1,80] 183 [v0,v1,v2] rfl rfl rfl (by kernel_rfl) (by kernel_rfl) (by simp [Act.eval,hv0,hv1,hv2]) (con_f94 c steps n1 e1 val (b.term.args.map (valD D)) (lrS ls) (by omega)) 84 (show (81:Nat)≤81 by decide) (show (81:Nat)≤84 by decide) (hE.le (by decide)) (hE.le (by decide)) hr (.cons hu0 (.cons hu1 (.cons hu2 .nil))) (fun _=>by kernel_rfl) fun pv2 a w σ Z _ hr=>?_
       refine PX.seq_sound (acc:=⟨⟨184,[],.sc (.bool false)⟩::⟨183,[],.sc (.bool true)⟩::(.e 182 (.imm 1 ((b.term.args.map (valD D)).map encI)))::(.e 181 (.J 0))::(.e 180 (.ptr 8 2))::(.e 179 (.ptr 1 0))::[(.e 0 (.ptr 1 0)),(.e 2 (.imm 1 ((b.term.args.map (valD D)).map encI))),(.e 12 (.ptr 8 0))],[(1,.box 116 [(.sc (.slice none 0 0)),(.sc (.slice none 0 0)),(.sc (.slice none 0 0)),(.sc (.slice none 0 0)),(.imm 4 ([[(.J c.params),(.imm 10 (c.blocks.map encB)),(.imm 3 (c.contexts.map encR)),(.imm 3 ([]))]])),(.J steps),(.J 0),(.J 0),(.J n1),(.J e1),(.own 81 1 ((lrS ls).length+1)),(.sc (.slice none 0 0)),(.J 0),(.sc (.bool false)),(.J val),(.sc (.slice none 0 0))]),(81,.row 138 1 true ((lrS ls)++[[(.sc (pv2))]])),(82,.box 142 [(.J 0),.any,.any,.any,.any,.any,.any,.any,.any,.any,.any]),(83,.ty pv2 (.ptr 82 0)),(3,.box 142 [(.J 0),.any,.any,.any,.any,.any,.any,(.J b.term.b0),(.imm 1 ([])),(.J b.term.b1),(.imm 1 ([]))]),(5,.ty pv (.ptr 3 0)),(8,.box 60 [(.J 6),(.J b.term.a),(.J 0),(.imm 1 (b.term.args.map encI)),(.J b.term.b0),(.imm 1 (b.term.args0.map encI)),(.J b.term.b1),(.imm 1 (b.term.args1.map encI))])],84,[],[]⟩) [_] [.au] (by kernel_rfl) (show 84≤E.top from hE.le (by decide)) trivial trivial hr fun a w σ Z hr=>?_
       show K64 a w
       refine hK64 _ _ ?_
       have hS:=PX.sl (E:=E) (N:=185) [0,2,184] ⟨σ,Z,hr⟩
       clear hr hu0 hu1 hu2 hv0 hv1 hv2
       replace hS:=(PX.cn [] [(.e 0 (.ptr 1 0)),(.e 2 (.imm 1 ((b.term.args.map (valD D)).map encI))),(.e 184 (.sc (.bool false)))] [(1,.box 116 [(.sc (.slice none 0 0)),(.sc (.slice none 0 0)),(.sc (.slice none 0 0)),(.sc (.slice none 0 0)),(.imm 4 ([[(.J c.params),(.imm 10 (c.blocks.map encB)),(.imm 3 (c.contexts.map encR)),(.imm 3 ([]))]])),(.J steps),(.J 0),(.J 0),(.J n1),(.J e1),(.own 81 1 ((lrS ls).length+1)),(.sc (.slice none 0 0)),(.J 0),(.sc (.bool false)),(.J val),(.sc (.slice none 0 0))]),(3,.box 142 [(.J 0),.any,.any,.any,.any,.any,.any,(.J b.term.b0),(.imm 1 ([])),(.J b.term.b1),(.imm 1 ([]))]),(5,.ty pv (.ptr 3 0)),(8,.box 60 [(.J 6),(.J b.term.a),(.J 0),(.imm 1 (b.term.args.map encI)),(.J b.term.b0),(.imm 1 (b.term.args0.map encI)),(.J b.term.b1),(.imm 1 (b.term.args1.map encI))]),(81,.row 138 1 true ((lrS ls)++[[(.sc (pv2))]])),(82,.box 142 [(.J 0),.any,.any,.any,.any,.any,.any,.any,.any,.any,.any]),(83,.ty pv2 (.ptr 82 0))] 84 hS hE)
       refine PX.cond_s false hS (by kernel_rfl) (fun h65=>nomatch h65) (fun h65=>?_)
       refine wp_skip ?_
       refine hK63 _ _ ?_
       refine PX.G0 [(.e 6 (.J 0))] [] 84 [] [] [.au] [0,2,6] [1,3,5,81,82,83] hS hE trivial fun a w hS=>?_
       replace hS:=PX.sl [0,2,6] hS; have hL:=hback _ _ _ _ _ _ hS
       exact ⟨m,by omega,0,(b.term.args.map (valD D)),n1,e1,val,stk,ls,hf,by simp; omega,hls,.inl ⟨pv2,(hL.canon [(3,82),(4,81),(5,83)] _ _ 6 hEo (by kernel_rfl) (by kernel_rfl) (by kernel_rfl))⟩⟩
  ·skip
   refine wp_exit ?_
   obtain ⟨rfl,rfl⟩:=fin_end hfin h5
   replace hS:=PX.recell (id:=1) (j:=8) .any hS rfl rfl rfl (PX.any_of rfl)
   replace hS:=PX.recell (id:=1) (j:=9) .any hS rfl rfl rfl (PX.any_of rfl)
   replace hS:=PX.recell (id:=1) (j:=10) .any hS rfl rfl rfl (PX.any_of rfl)
   replace hS:=(hback _ _ _ _ _ _ hS).sat; have hE:=hEo
   exact PX.ret_s hS hE (by kernel_rfl) (by kernel_rfl) (by kernel_rfl) (by first | exact .inl rfl | exact .inr rfl)
 ·skip
  refine wp_seq_k fun K66 hK66=>?_
  refine PX.G [(.e 20 (.sc (.bool false)))] [] 6 [] [] [.au,.au] [0,6,20] [1] hS hE trivial fun a w hS=>?_
  refine PX.cond_s false hS (by kernel_rfl) (fun h67=>nomatch h67) (fun h67=>?_)
  refine wp_exit ?_
  obtain ⟨rfl,rfl⟩:=fin_end hfin rfl
  replace hS:=PX.recell (id:=1) (j:=8) .any hS rfl rfl rfl (PX.any_of rfl)
  replace hS:=PX.recell (id:=1) (j:=9) .any hS rfl rfl rfl (PX.any_of rfl)
  exact PX.ret_s hS hE (by kernel_rfl) (by kernel_rfl) (by kernel_rfl) (by first | exact .inl rfl | exact .inr rfl)
end Go.Proofs.Ytlkcidmmpeebeaa
