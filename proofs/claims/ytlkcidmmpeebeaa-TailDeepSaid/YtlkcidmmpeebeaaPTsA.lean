/- Proved: ir.Trace with a stack: operations -/
import Derived.Test.YtlkcidmmpeebeaaPst
import Derived.Test.YtlkcidmmpeebeaaUnC
import Derived.Test.YtlkcidmmpeebeaaPSmall
set_option linter.unusedVariables false
set_option linter.unusedSimpArgs false
namespace Go.Proofs.Ytlkcidmmpeebeaa
open Go.RowKit Go.PX
set_option maxRecDepth 100000
def opD (o:OpD) (D:List (Int × Int)):List (Int × Int) :=
 if o.kind=1 then updI D o.dst o.n else if o.kind=3 then updI D o.dst (IntKind.i64.wrap (valD D o.a+valD D o.b)) else if o.kind=4 then updI D o.dst (IntKind.i64.wrap (valD D o.a-valD D o.b)) else D
def opN (o:OpD) (n:Int):Int:=if o.kind=19 then IntKind.i64.wrap (n+1) else n
def opE (o:OpD) (e:Int):Int:=if o.kind=19 then 0 else e
def opsR (steps:Int):List OpD→List (Int × Int)→Int→Int→Option (List (Int × Int) × Int × Int)
 | [],D,n,e=>some (D,n,e)
 | o::l,D,n,e=>if o.kind=19∧steps≤n then none else opsR steps l (opD o D) (opN o n) (opE o e)
def byStk {α:Type} (stk:List (Int × Int)) (a:α) (f:Int × Int→List (Int × Int)→α):α:=match stk with
 | []=>a
 | p::s=>f p s
def finS (c:CodeD) (steps:Int):Nat→Int→List Int→Int→Int→Int→List (Int × Int)→Option (Int × Int)
 | 0,_,_,_,_,_,_=>none
 | m+1,at_,args,n,e,val,stk =>
  if at_<0 then some (0,val) else if 5000≤e then some (13,val) else
  match c.blocks[at_.toNat]? with
  | none=>none
  | some b=>match opsR steps b.ops (argsN args) n (IntKind.i64.wrap (e+1)) with
   | none=>some (13,val)
   | some (D,n',e') =>
    if b.term.kind=1 then finS c steps m b.term.b0 (b.term.args0.map (valD D)) n' e' val stk
    else if b.term.kind=2 then (if valD D b.term.a=0 then finS c steps m b.term.b1 (b.term.args1.map (valD D)) n' e' val stk else finS c steps m b.term.b0 (b.term.args0.map (valD D)) n' e' val stk)
    else if b.term.kind=3 then (if 20≤stk.length+1 then some (5,val) else finS c steps m 0 (b.term.args.map (valD D)) n' e' val ((b.term.b0,b.term.b1)::stk))
    else if b.term.kind=6 then finS c steps m 0 (b.term.args.map (valD D)) n' e' val stk
    else if b.term.kind=4 then byStk stk (finS c steps m (-1) [] n' e' (valD D b.term.a) []) (fun p s=>if p.1<0 then none else finS c steps m p.1 [valD D b.term.a] n' e' val s)
    else none
def OpS (o:OpD):Prop:=o.kind=1∨o.kind=3∨o.kind=4∨o.kind=19∨o.kind=20
structure Simple (c:CodeD):Prop where
 chk:R.check c (totW c.blocks)=0
 ctx:∀ x∈c.contexts,x.2.2=0
 obj:c.objects=[]
 ops:∀ b∈c.blocks,∀ o∈b.ops,OpS o
 term:∀ b∈c.blocks,b.term.kind=1∨b.term.kind=2∨b.term.kind=3∨b.term.kind=4∨b.term.kind=6
 call:∀ b∈c.blocks,b.term.kind=3∨b.term.kind=6→b.term.n=0∧(b.term.args.length:Int)=c.params∧b.term.args0=[]∧b.term.args1=[]

set_option maxHeartbeats 400000 in
theorem con_f133a (x y:Int):PX.Con Try.prog 133 [(.J 0),(.J x),(.J y)] [] 1 100000 (.sc (.I (IntKind.i64.wrap (x+y)))) []:=by
 refine PX.con_intro [(.J 0),(.J x),(.J y)] 76 Try.func133 rfl rfl (by kernel_rfl) (by kernel_rfl) ?_
 intro E a hE hS
 generalize E.w0=w at hS ⊢
 have mix:=mixed
 refine PX.G [] [] 1 [] [] [.au] [0,1,2] [] hS hE trivial fun a w hS=>?_
 refine PX.G [(.e 7 (.sc (.bool false)))] [] 1 [] [] [.au] [0,1,2,7] [] hS hE trivial fun a w hS=>?_
 refine wp_seq_k fun K1 hK1=>?_
 refine PX.G [(.e 9 (.J 6))] [] 1 [] [] [.au,.au] [1,2,7,9] [] hS hE trivial fun a w hS=>?_
 refine wp_block ?_
 refine PX.G [(.e 10 (.sc (.bool true)))] [] 1 [] [] [.au,.au] [1,2,7,9,10] [] hS hE trivial fun a w hS=>?_
 refine PX.cond_s true hS (by kernel_rfl) (fun h2=>?_) (fun h2=>nomatch h2)
 refine PX.G [(.e 6 (.sc (.I (IntKind.i64.wrap (x+y)))))] [] 1 [] [] [.au,.au,.au,.au] [6] [] hS hE trivial fun a w hS=>?_
 refine wp_ret ?_
 exact PX.rt hS hE (.inl rfl)

set_option maxHeartbeats 400000 in
theorem con_f133s (x y:Int):PX.Con Try.prog 133 [(.J 1),(.J x),(.J y)] [] 1 100000 (.sc (.I (IntKind.i64.wrap (x-y)))) []:=by
 refine PX.con_intro [(.J 1),(.J x),(.J y)] 76 Try.func133 rfl rfl (by kernel_rfl) (by kernel_rfl) ?_
 intro E a hE hS
 generalize E.w0=w at hS ⊢
 have mix:=mixed
 refine PX.G [] [] 1 [] [] [.au] [0,1,2] [] hS hE trivial fun a w hS=>?_
 refine PX.G [(.e 7 (.sc (.bool false)))] [] 1 [] [] [.au] [0,1,2,7] [] hS hE trivial fun a w hS=>?_
 refine wp_seq_k fun K1 hK1=>?_
 refine PX.G [(.e 9 (.J 7))] [] 1 [] [] [.au,.au] [1,2,7,9] [] hS hE trivial fun a w hS=>?_
 refine wp_block ?_
 refine PX.G [(.e 10 (.sc (.bool false)))] [] 1 [] [] [.au,.au] [1,2,7,9,10] [] hS hE trivial fun a w hS=>?_
 refine PX.cond_s false hS (by kernel_rfl) (fun h2=>nomatch h2) (fun h2=>?_)
 refine PX.G [(.e 15 (.sc (.bool true)))] [] 1 [] [] [.au,.au] [1,2,7,9,15] [] hS hE trivial fun a w hS=>?_
 refine PX.cond_s true hS (by kernel_rfl) (fun h3=>?_) (fun h3=>nomatch h3)
 refine PX.G [(.e 6 (.sc (.I (IntKind.i64.wrap (x-y)))))] [] 1 [] [] [.au,.au,.au,.au] [6] [] hS hE trivial fun a w hS=>?_
 refine wp_ret ?_
 exact PX.rt hS hE (.inl rfl)

set_option maxHeartbeats 400000 in
theorem con_f131n (c:CodeD) (steps n e err val:Int) (D:List (Int × Int)) (ln:Nat) (lr:List (List PX.PV)) (h0:decide (steps≤n)=true):PX.Con Try.prog 131 [(.ptr 1 0)] [(1,.box 116 [(.sc (.slice none 0 0)),(.sc (.slice none 0 0)),(.sc (.slice none 0 0)),(.sc (.slice none 0 0)),(.imm 4 ([[(.J c.params),(.imm 10 (c.blocks.map encB)),(.imm 3 (c.contexts.map encR)),(.imm 3 ([]))]])),(.J steps),(.J 0),(.J 0),(.J n),(.J e),(.own 4 1 ln),(.sc (.slice none 0 0)),(.J err),(.sc (.bool false)),(.J val),(.sc (.slice none 0 0))]),(2,.box 142 [(.J 0),.any,(.map 3),.any,.any,.any,.any,.any,.any,.any,.any]),(3,.mp (iv D)),(4,.row 138 1 true lr)] 5 100000 (.sc (.bool false)) [(1,some (.box 116 [(.sc (.slice none 0 0)),(.sc (.slice none 0 0)),(.sc (.slice none 0 0)),(.sc (.slice none 0 0)),(.imm 4 ([[(.J c.params),(.imm 10 (c.blocks.map encB)),(.imm 3 (c.contexts.map encR)),(.imm 3 ([]))]])),(.J steps),(.J 0),(.J 0),(.J n),(.J e),(.own 4 1 ln),(.sc (.slice none 0 0)),(.J 13),(.sc (.bool false)),(.J val),(.sc (.slice none 0 0))])),(2,some (.box 142 [(.J 0),.any,(.map 3),.any,.any,.any,.any,.any,.any,.any,.any])),(3,some (.mp (iv D))),(4,some (.row 138 1 true lr))]:=by
 refine PX.con_intro [(.ptr 1 0)] 83 Try.func131 rfl rfl (by kernel_rfl) (by kernel_rfl) ?_
 intro E a hE hS
 generalize E.w0=w at hS ⊢
 have mix:=mixed
 refine PX.G [] [] 5 [] [] [.au] [0] [1,2,3,4] hS hE trivial fun a w hS=>?_
 refine wp_seq_k fun K1 hK1=>?_
 refine PX.D [(.e 13 (.sc (.bool (decide (steps≤n)))))] [] 5 [] [] [.au,.au,.au,.au,.au,.au,.au,.au,.au] [0,13] [1,2,3,4] hS mixed hE trivial fun a w hS=>?_
 refine PX.cond_s (decide (steps≤n)) hS (by kernel_rfl) (fun h2=>?_) (fun h2=>nomatch (h0.symm.trans h2))
 refine PX.G [] [(1,.box 116 [(.sc (.slice none 0 0)),(.sc (.slice none 0 0)),(.sc (.slice none 0 0)),(.sc (.slice none 0 0)),(.imm 4 ([[(.J c.params),(.imm 10 (c.blocks.map encB)),(.imm 3 (c.contexts.map encR)),(.imm 3 ([]))]])),(.J steps),(.J 0),(.J 0),(.J n),(.J e),(.own 4 1 ln),(.sc (.slice none 0 0)),(.J 13),(.sc (.bool false)),(.J val),(.sc (.slice none 0 0))])] 5 [] [] [.au,.au,.au,.au,.au] [] [1,2,3,4] hS hE trivial fun a w hS=>?_
 refine PX.G [(.e 2 (.sc (.bool false)))] [] 5 [] [] [.au] [2] [1,2,3,4] hS hE trivial fun a w hS=>?_
 refine wp_ret ?_
 exact PX.rt hS hE (.inl rfl)

set_option maxHeartbeats 400000 in
theorem con_f131y (c:CodeD) (steps n e err val:Int) (D:List (Int × Int)) (ln:Nat) (lr:List (List PX.PV)) (h0:decide (steps≤n)=false):PX.Con Try.prog 131 [(.ptr 1 0)] [(1,.box 116 [(.sc (.slice none 0 0)),(.sc (.slice none 0 0)),(.sc (.slice none 0 0)),(.sc (.slice none 0 0)),(.imm 4 ([[(.J c.params),(.imm 10 (c.blocks.map encB)),(.imm 3 (c.contexts.map encR)),(.imm 3 ([]))]])),(.J steps),(.J 0),(.J 0),(.J n),(.J e),(.own 4 1 ln),(.sc (.slice none 0 0)),(.J err),(.sc (.bool false)),(.J val),(.sc (.slice none 0 0))]),(2,.box 142 [(.J 0),.any,(.map 3),.any,.any,.any,.any,.any,.any,.any,.any]),(3,.mp (iv D)),(4,.row 138 1 true lr)] 5 100000 (.sc (.bool true)) [(1,some (.box 116 [(.sc (.slice none 0 0)),(.sc (.slice none 0 0)),(.sc (.slice none 0 0)),(.sc (.slice none 0 0)),(.imm 4 ([[(.J c.params),(.imm 10 (c.blocks.map encB)),(.imm 3 (c.contexts.map encR)),(.imm 3 ([]))]])),(.J steps),(.J 0),(.J 0),(.sc (.I (IntKind.i64.wrap (n+1)))),(.J 0),(.own 4 1 ln),(.sc (.slice none 0 0)),(.J err),(.sc (.bool false)),(.J val),(.sc (.slice none 0 0))])),(2,some (.box 142 [(.J 0),.any,(.map 3),.any,.any,.any,.any,.any,.any,.any,.any])),(3,some (.mp (iv D))),(4,some (.row 138 1 true lr))]:=by
 refine PX.con_intro [(.ptr 1 0)] 83 Try.func131 rfl rfl (by kernel_rfl) (by kernel_rfl) ?_
 intro E a hE hS
 generalize E.w0=w at hS ⊢
 have mix:=mixed
 refine PX.G [] [] 5 [] [] [.au] [0] [1,2,3,4] hS hE trivial fun a w hS=>?_
 refine wp_seq_k fun K1 hK1=>?_
 refine PX.D [(.e 13 (.sc (.bool (decide (steps≤n)))))] [] 5 [] [] [.au,.au,.au,.au,.au,.au,.au,.au,.au] [0,13] [1,2,3,4] hS mixed hE trivial fun a w hS=>?_
 refine PX.cond_s (decide (steps≤n)) hS (by kernel_rfl) (fun h2=>nomatch (h0.symm.trans h2)) (fun h2=>?_)
 refine wp_skip ?_
 refine hK1 _ _ ?_
 refine wp_seq_k fun K3 hK3=>?_
 refine PX.D [(.e 38 (.sc (.bool (decide (0≤n)&&decide (((0:Nat):Int)<0)))))] [] 5 [] [(9,decide (0≤n))] [.au,.au,.au,.au,.au,.au,.au,.au,.au,.au,.au,.au,.au,.au,.au,.au,.au,.au,.au,.au,.pk] [0,38] [1,2,3,4] hS mixed hE trivial fun a w hS=>?_
 refine PX.cond_s (decide (0≤n)&&decide (((0:Nat):Int)<0)) hS (by kernel_rfl) (fun h4=>?_) (fun h4=>?_)
 ·skip
  exact absurd h4 (by simp)
 ·skip
  refine wp_skip ?_
  refine hK3 _ _ ?_
  refine PX.G [] [(1,.box 116 [(.sc (.slice none 0 0)),(.sc (.slice none 0 0)),(.sc (.slice none 0 0)),(.sc (.slice none 0 0)),(.imm 4 ([[(.J c.params),(.imm 10 (c.blocks.map encB)),(.imm 3 (c.contexts.map encR)),(.imm 3 ([]))]])),(.J steps),(.J 0),(.J 0),(.sc (.I (IntKind.i64.wrap (n+1)))),(.J e),(.own 4 1 ln),(.sc (.slice none 0 0)),(.J err),(.sc (.bool false)),(.J val),(.sc (.slice none 0 0))])] 5 [] [] [.au,.au,.au,.au,.au,.au,.au,.au] [0] [1,2,3,4] hS hE trivial fun a w hS=>?_
  refine PX.G [] [(1,.box 116 [(.sc (.slice none 0 0)),(.sc (.slice none 0 0)),(.sc (.slice none 0 0)),(.sc (.slice none 0 0)),(.imm 4 ([[(.J c.params),(.imm 10 (c.blocks.map encB)),(.imm 3 (c.contexts.map encR)),(.imm 3 ([]))]])),(.J steps),(.J 0),(.J 0),(.sc (.I (IntKind.i64.wrap (n+1)))),(.J 0),(.own 4 1 ln),(.sc (.slice none 0 0)),(.J err),(.sc (.bool false)),(.J val),(.sc (.slice none 0 0))])] 5 [] [] [.au,.au,.au,.au] [] [1,2,3,4] hS hE trivial fun a w hS=>?_
  refine PX.G [(.e 2 (.sc (.bool true)))] [] 5 [] [] [.au] [2] [1,2,3,4] hS hE trivial fun a w hS=>?_
  refine wp_ret ?_
  exact PX.rt hS hE (.inl rfl)

set_option maxHeartbeats 400000 in
theorem con_f132 (l:List OpD) (hl:l.length≤1000000) (hnb:∀ o∈l,o.kind≠21):PX.Con Try.prog 132 [(.imm 11 (l.map encO))] [] 1 100000 (.sc (.slice none 0 0)) []:=by
 refine PX.con_intro [(.imm 11 (l.map encO))] 65 Try.func132 rfl rfl (by kernel_rfl) (by kernel_rfl) ?_
 intro E a hE hS
 generalize E.w0=w at hS ⊢
 have mix:=mixed
 refine PX.G [] [] 1 [] [] [.au] [0] [] hS hE trivial fun a w hS=>?_
 refine PX.G [(.e 3 (.sc (.slice none 0 0)))] [] 1 [] [] [.au] [0,3] [] hS hE trivial fun a w hS=>?_
 refine wp_seq_k fun K1 hK1=>?_
 refine PX.G [(.e 9 (.imm 11 (l.map encO))),(.e 10 (.sc (.I (l.length:Int)))),(.e 11 (.J 0))] [] 1 [.q ((.sc (.I (((l.map encO).length:Nat):Int)):PX.PV)=(.sc (.I (l.length:Int))))] [] [.au,.nm (.sc (.I (l.length:Int))),.au] [3,9,10,11] [] hS hE ⟨PX.nm_len (by simp),trivial⟩ fun a w hS=>?_
 refine wp_block ?_
 refine wp_loop_ghost (fun m2 a' w'=>∃ k:Nat,m2=l.length-k∧k≤l.length∧True∧PX.Sat E 65 [(.e 3 (.sc (.slice none 0 0))),(.e 9 (.imm 11 (l.map encO))),(.e 10 (.sc (.I (l.length:Int)))),(.e 11 (.sc (.I (k:Int))))] [] 1 a' w') (l.length-0) ⟨0,rfl,Nat.zero_le _,trivial,(PX.cn [] _ _ 1 hS hE)⟩ ?_
 clear hS; rintro m2 a w ⟨k,hm2,hlek,hIk,hS⟩
 refine PX.G [(.e 12 (.sc (.bool (decide ((k:Int)<(l.length:Int))))))] [] 1 [] [] [.au] [3,9,10,11,12] [] hS hE trivial fun a w hS=>?_
 refine wp_seq_k fun K3 hK3=>?_
 refine PX.cond_s (decide ((k:Int)<(l.length:Int))) hS (by kernel_rfl) (fun h4=>?_) (fun h4=>?_)
 ·skip
  refine wp_skip ?_
  refine hK3 _ _ ?_
  refine wp_seq_k fun K5 hK5=>?_
  refine wp_block ?_
  have hlty:k<l.length:=by simpa using h4
  obtain ⟨y,hy⟩:=get_of_lt hlty
  refine PX.G [(.e 5 (.ptr 1 0))] [(1,.box 74 (encO y))] 2 [.q ((k:Int)=(k:Int)),.q ((l.map encO)[k]?=some (encO y))] [] [.ix k (encO y),.au,.au,.au] [3,5,9,10,11] [1] hS hE ⟨rfl,PX.map_get hy,trivial⟩ fun a w hS=>?_
  refine wp_seq_k fun K6 hK6=>?_
  refine PX.G [(.e 17 (.sc (.bool (y.kind != 21))))] [] 2 [] [] [.au,.au,.au] [3,5,9,10,11,17] [1] hS hE trivial fun a w hS=>?_
  refine PX.cond_s (y.kind != 21) hS (by kernel_rfl) (fun h7=>?_) (fun h7=>?_)
  ·skip
   refine wp_exit ?_
   refine hK5 _ _ ?_
   refine PX.G0 [(.e 11 (.sc (.I ((k+1:Nat):Int))))] [] 2 [.q ((.sc (.I (IntKind.i64.wrap ((k:Int)+1))):PX.PV)=(.sc (.I ((k+1:Nat):Int))))] [] [.nm (.sc (.I ((k+1:Nat):Int))),.au] [3,9,10,11] [] hS hE ⟨PX.nm_int (by rw [IntWalk.i64_in _ (by omega)]; omega),trivial⟩ fun a w hS=>?_
   exact ⟨l.length-(k+1),by omega,k+1,rfl,by omega,trivial,(PX.cn [] _ _ 1 hS hE)⟩
  ·skip
   exact absurd h7 (by simpa using hnb y (List.mem_of_getElem? hy))
 ·skip
  refine wp_exit ?_
  refine hK1 _ _ ?_
  refine PX.G [(.e 2 (.sc (.slice none 0 0)))] [] 1 [] [] [.au,.au] [2] [] hS hE trivial fun a w hS=>?_
  refine wp_ret ?_
  exact PX.rt hS hE (.inl rfl)

set_option maxHeartbeats 400000 in
theorem con_f96 (D:List (Int × Int)) (l:List Int) (hl:l.length≤1000000):PX.Con Try.prog 96 [(.ptr 2 0),(.imm 1 (l.map encI))] [(2,.box 142 [(.J 0),.any,(.map 3),.any,.any,.any,.any,.any,.any,.any,.any]),(3,.mp (iv D))] 4 100000 (.imm 1 ((l.map (valD D)).map encI)) [(2,some (.box 142 [(.J 0),.any,(.map 3),.any,.any,.any,.any,.any,.any,.any,.any])),(3,some (.mp (iv D)))]:=by
 refine PX.con_intro [(.ptr 2 0),(.imm 1 (l.map encI))] 25 Try.func96 rfl rfl (by kernel_rfl) (by kernel_rfl) ?_
 intro E a hE hS
 generalize E.w0=w at hS ⊢
 have mix:=mixed
 refine PX.G [] [] 4 [] [] [.au] [0,1] [2,3] hS hE trivial fun a w hS=>?_
 refine PX.G [(.e 5 (.sc (.slice none 0 0)))] [] 4 [] [] [.au] [0,1,5] [2,3] hS hE trivial fun a w hS=>?_
 refine wp_seq_k fun K1 hK1=>?_
 refine PX.G [(.e 8 (.imm 1 (l.map encI))),(.e 9 (.sc (.I (l.length:Int)))),(.e 10 (.J 0))] [] 4 [.q ((.sc (.I (((l.map encI).length:Nat):Int)):PX.PV)=(.sc (.I (l.length:Int))))] [] [.au,.nm (.sc (.I (l.length:Int))),.au] [0,5,8,9,10] [2,3] hS hE ⟨PX.nm_len (by simp),trivial⟩ fun a w hS=>?_
 refine wp_block ?_
 replace hS:=PX.sl [0,5,8,9,10] (PX.reslot (t:=5) (.own 4 1 0) (PX.newrow 3 1 hS (hE.le (by decide))) rfl (PX.nil_own 4 1))
 refine wp_loop_ghost (fun m2 a' w'=>∃ k:Nat,m2=l.length-k∧k≤l.length∧True∧PX.Sat E 25 [(.e 0 (.ptr 2 0)),(.e 5 (.own 4 1 k)),(.e 8 (.imm 1 (l.map encI))),(.e 9 (.sc (.I (l.length:Int)))),(.e 10 (.sc (.I (k:Int))))] [(2,.box 142 [(.J 0),.any,(.map 3),.any,.any,.any,.any,.any,.any,.any,.any]),(3,.mp (iv D)),(4,.row 3 1 true (((l.take (k)).map (valD D)).map encI))] 5 a' w') (l.length-0) ⟨0,rfl,Nat.zero_le _,trivial,(PX.cn [] _ _ 5 hS hE)⟩ ?_
 clear hS; rintro m2 a w ⟨k,hm2,hlek,hIk,hS⟩
 refine PX.G [(.e 11 (.sc (.bool (decide ((k:Int)<(l.length:Int))))))] [] 5 [] [] [.au] [0,5,8,9,10,11] [2,3,4] hS hE trivial fun a w hS=>?_
 refine wp_seq_k fun K3 hK3=>?_
 refine PX.cond_s (decide ((k:Int)<(l.length:Int))) hS (by kernel_rfl) (fun h4=>?_) (fun h4=>?_)
 ·skip
  refine wp_skip ?_
  refine hK3 _ _ ?_
  refine wp_seq_k fun K5 hK5=>?_
  refine wp_block ?_
  have hlty:k<l.length:=by simpa using h4
  obtain ⟨y,hy⟩:=get_of_lt hlty
  refine PX.G [(.e 7 (.J y))] [] 5 [.q ((k:Int)=(k:Int)),.q ((l.map encI)[k]?=some (encI y))] [] [.ix k (encI y),.au,.au] [0,5,7,8,9,10] [2,3,4] hS hE ⟨rfl,PX.map_get hy,trivial⟩ fun a w hS=>?_
  refine PX.G0 [(.e 5 (.own 6 1 ((((l.take (k)).map (valD D)).map encI:List (List PX.PV)).length+1)))] [(6,.row 3 1 true (((l.take (k)).map (valD D)).map encI++[[(.sc (.I (valD D y)))]]))] 7 [.q ((.sc ((PX.findV (iv D) y).getD (.I 0)):PX.PV)=(.sc (.I (valD D y)))),.b (lenIs k (((l.take (k)).map (valD D)).map encI)),.b (lenIs 1 ([[(.sc (.I (valD D y)))]])),.b (Nat.ble ((((l.take (k)).map (valD D)).map encI:List (List PX.PV)).length+1) 1000000000)] [] [.au,.au,.au,.au,.au,.au,.nm (.sc (.I (valD D y))),.au,.au,.au] [0,5,8,9,10] [2,3,6] hS hE ⟨look_iv D y,by simp [PX.lenIs]; omega,rfl,by simp; omega,trivial⟩ fun a w hS=>?_
  refine hK5 _ _ ?_
  refine PX.G0 [(.e 10 (.sc (.I ((k+1:Nat):Int))))] [] 7 [.q ((.sc (.I (IntKind.i64.wrap ((k:Int)+1))):PX.PV)=(.sc (.I ((k+1:Nat):Int))))] [] [.nm (.sc (.I ((k+1:Nat):Int))),.au] [0,5,8,9,10] [2,3,6] hS hE ⟨PX.nm_int (by rw [IntWalk.i64_in _ (by omega)]; omega),trivial⟩ fun a w hS=>?_
  have e2:(((l.take (k)).map (valD D)).map encI:List (List PX.PV)).length+1=k+1:=by simp; omega
  have e1:(((l.take (k)).map (valD D)).map encI++[[(.sc (.I (valD D y)))]])=((l.take (k+1)).map (valD D)).map encI:=by rw [List.take_add_one,hy]; simp [encI]
  rw [e2,e1] at hS
  exact ⟨l.length-(k+1),by omega,k+1,rfl,by omega,trivial,(PX.cn [(4,6)] _ _ 5 hS hE)⟩
 ·skip
  refine wp_exit ?_
  refine hK1 _ _ ?_
  refine PX.G [(.e 4 (.own 4 1 k))] [] 5 [] [] [.au,.au] [4] [2,3,4] hS hE trivial fun a w hS=>?_
  have hk:l.length≤k:=by simpa using h4
  replace hS:=PX.fz 4 [(.e 4 (.imm 1 (((l.take (k)).map (valD D)).map encI)))] [] [4] [2,3] [.b (PX.lenIs k (((l.take (k)).map (valD D)).map encI))] hS ⟨(by simp [PX.lenIs]; omega),trivial⟩
  refine wp_ret ?_
  rw [show (.imm 1 ((l.map (valD D)).map encI))=((.imm 1 (((l.take (k)).map (valD D)).map encI)):PX.PV) from by rw [List.take_of_length_le hk]]
  exact PX.rt hS hE (.inl rfl)

set_option maxHeartbeats 1000000 in
theorem con_op1 (c:CodeD) (steps n e err val:Int) (D:List (Int × Int)) (ln:Nat) (lr:List (List PX.PV)) (b:BlockD) (k:Nat) (o:OpD) (hy:b.ops[k]?=some o) (hk:o.kind=1) (hbl:b.ops.length≤1000000) (hnb:∀ o∈b.ops,o.kind≠21):PX.Con Try.prog 95 [(.ptr 1 0),(.ptr 2 0),(.agg (encB b)),(.sc (.I (k:Int)))] [(1,.box 116 [(.sc (.slice none 0 0)),(.sc (.slice none 0 0)),(.sc (.slice none 0 0)),(.sc (.slice none 0 0)),(.imm 4 ([[(.J c.params),(.imm 10 (c.blocks.map encB)),(.imm 3 (c.contexts.map encR)),(.imm 3 ([]))]])),(.J steps),(.J 0),(.J 0),(.J n),(.J e),(.own 4 1 ln),(.sc (.slice none 0 0)),(.J err),(.sc (.bool false)),(.J val),(.sc (.slice none 0 0))]),(2,.box 142 [(.J 0),.any,(.map 3),.any,.any,.any,.any,.any,.any,.any,.any]),(3,.mp (iv D)),(4,.row 138 1 true lr)] 5 100000 (.sc (.bool true)) [(1,some (.box 116 [(.sc (.slice none 0 0)),(.sc (.slice none 0 0)),(.sc (.slice none 0 0)),(.sc (.slice none 0 0)),(.imm 4 ([[(.J c.params),(.imm 10 (c.blocks.map encB)),(.imm 3 (c.contexts.map encR)),(.imm 3 ([]))]])),(.J steps),(.J 0),(.J 0),(.J n),(.J e),(.own 4 1 ln),(.sc (.slice none 0 0)),(.J err),(.sc (.bool false)),(.J val),(.sc (.slice none 0 0))])),(2,some (.box 142 [(.J 0),.any,(.map 3),.any,.any,.any,.any,.any,.any,.any,.any])),(3,some (.mp (iv (updI D o.dst o.n)))),(4,some (.row 138 1 true lr))]:=by
 refine PX.con_intro [(.ptr 1 0),(.ptr 2 0),(.agg (encB b)),(.sc (.I (k:Int)))] 211 Try.func95 rfl rfl (by kernel_rfl) (by kernel_rfl) ?_
 intro E a hE hS
 generalize E.w0=w at hS ⊢
 have mix:=mixed
 refine PX.G [(.e 6 (.ptr 5 0))] [(5,.box 62 (encB b))] 6 [] [] [.au,.au] [0,1,3,6] [1,2,3,4,5] hS hE trivial fun a w hS=>?_
 refine PX.G [(.e 9 (.ptr 6 0))] [(6,.box 74 (encO o))] 7 [.q ((k:Int)=(k:Int)),.q ((b.ops.map encO)[k]?=some (encO o))] [] [.au,.au,.au,.ix k (encO o),.au,.au,.au] [0,1,3,6,9] [1,2,3,4,5,6] hS hE ⟨rfl,PX.map_get hy,trivial⟩ fun a w hS=>?_
 replace hS:=PX.recell (id:=6) (j:=0) (.sc (.I 1)) hS rfl rfl rfl (fun _ _ _ _ h=>(show PX.PV.sc (.I o.kind)=.sc (.I 1) from by rw [hk]) ▸ h)
 refine PX.D [(.e 10 (.sc (.I (valD D o.a)))),(.e 11 (.sc (.I (valD D o.b))))] [] 7 [.q ((.sc ((PX.findV (iv D) o.a).getD (.I 0)):PX.PV)=(.sc (.I (valD D o.a)))),.q ((.sc ((PX.findV (iv D) o.b).getD (.I 0)):PX.PV)=(.sc (.I (valD D o.b))))] [] [.au,.au,.au,.au,.au,.au,.nm (.sc (.I (valD D o.a))),.au,.au,.au,.au,.au,.au,.nm (.sc (.I (valD D o.b))),.au,.au] [0,1,3,6,9,10,11] [1,2,3,4,5,6] hS mixed hE ⟨look_iv D o.a,look_iv D o.b,trivial⟩ fun a w hS=>?_
 refine wp_seq_k fun K1 hK1=>?_
 refine PX.G [(.e 32 (.J 1))] [] 7 [] [] [.au,.au] [0,1,3,6,9,10,11,32] [1,2,3,4,5,6] hS hE trivial fun a w hS=>?_
 refine wp_block ?_
 refine PX.G [(.e 45 (.sc (.bool true)))] [] 7 [] [] [.au,.au] [0,1,3,6,9,10,11,32,45] [1,2,3,4,5,6] hS hE trivial fun a w hS=>?_
 refine PX.cond_s true hS (by kernel_rfl) (fun h2=>?_) (fun h2=>nomatch h2)
 refine PX.D0 [] [(3,.mp (PX.updV (iv D) o.dst (.I o.n)))] 7 [] [] [.au,.au,.au,.au,.au,.au,.au,.au,.au] [] [1,2,3,4] hS mixed hE trivial fun a w hS=>?_
 refine hK1 _ _ ?_
 refine PX.G [(.e 8 (.sc (.bool true)))] [] 7 [] [] [.au] [8] [1,2,3,4] hS hE trivial fun a w hS=>?_
 refine wp_ret ?_
 rw [show (PX.updV (iv D) o.dst (.I o.n))=(iv (updI D o.dst o.n)) from upd_iv D _ _] at hS
 exact PX.rt hS hE (.inl rfl)

set_option maxHeartbeats 1000000 in
theorem con_op3 (c:CodeD) (steps n e err val:Int) (D:List (Int × Int)) (ln:Nat) (lr:List (List PX.PV)) (b:BlockD) (k:Nat) (o:OpD) (hy:b.ops[k]?=some o) (hk:o.kind=3) (hbl:b.ops.length≤1000000) (hnb:∀ o∈b.ops,o.kind≠21):PX.Con Try.prog 95 [(.ptr 1 0),(.ptr 2 0),(.agg (encB b)),(.sc (.I (k:Int)))] [(1,.box 116 [(.sc (.slice none 0 0)),(.sc (.slice none 0 0)),(.sc (.slice none 0 0)),(.sc (.slice none 0 0)),(.imm 4 ([[(.J c.params),(.imm 10 (c.blocks.map encB)),(.imm 3 (c.contexts.map encR)),(.imm 3 ([]))]])),(.J steps),(.J 0),(.J 0),(.J n),(.J e),(.own 4 1 ln),(.sc (.slice none 0 0)),(.J err),(.sc (.bool false)),(.J val),(.sc (.slice none 0 0))]),(2,.box 142 [(.J 0),.any,(.map 3),.any,.any,.any,.any,.any,.any,.any,.any]),(3,.mp (iv D)),(4,.row 138 1 true lr)] 5 100000 (.sc (.bool true)) [(1,some (.box 116 [(.sc (.slice none 0 0)),(.sc (.slice none 0 0)),(.sc (.slice none 0 0)),(.sc (.slice none 0 0)),(.imm 4 ([[(.J c.params),(.imm 10 (c.blocks.map encB)),(.imm 3 (c.contexts.map encR)),(.imm 3 ([]))]])),(.J steps),(.J 0),(.J 0),(.J n),(.J e),(.own 4 1 ln),(.sc (.slice none 0 0)),(.J err),(.sc (.bool false)),(.J val),(.sc (.slice none 0 0))])),(2,some (.box 142 [(.J 0),.any,(.map 3),.any,.any,.any,.any,.any,.any,.any,.any])),(3,some (.mp (iv (updI D o.dst (IntKind.i64.wrap ((valD D o.a)+(valD D o.b))))))),(4,some (.row 138 1 true lr))]:=by
 refine PX.con_intro [(.ptr 1 0),(.ptr 2 0),(.agg (encB b)),(.sc (.I (k:Int)))] 211 Try.func95 rfl rfl (by kernel_rfl) (by kernel_rfl) ?_
 intro E a hE hS
 generalize E.w0=w at hS ⊢
 have mix:=mixed
 refine PX.G [(.e 6 (.ptr 5 0))] [(5,.box 62 (encB b))] 6 [] [] [.au,.au] [0,1,3,6] [1,2,3,4,5] hS hE trivial fun a w hS=>?_
 refine PX.G [(.e 9 (.ptr 6 0))] [(6,.box 74 (encO o))] 7 [.q ((k:Int)=(k:Int)),.q ((b.ops.map encO)[k]?=some (encO o))] [] [.au,.au,.au,.ix k (encO o),.au,.au,.au] [0,1,3,6,9] [1,2,3,4,5,6] hS hE ⟨rfl,PX.map_get hy,trivial⟩ fun a w hS=>?_
 replace hS:=PX.recell (id:=6) (j:=0) (.sc (.I 3)) hS rfl rfl rfl (fun _ _ _ _ h=>(show PX.PV.sc (.I o.kind)=.sc (.I 3) from by rw [hk]) ▸ h)
 refine PX.D [(.e 10 (.sc (.I (valD D o.a)))),(.e 11 (.sc (.I (valD D o.b))))] [] 7 [.q ((.sc ((PX.findV (iv D) o.a).getD (.I 0)):PX.PV)=(.sc (.I (valD D o.a)))),.q ((.sc ((PX.findV (iv D) o.b).getD (.I 0)):PX.PV)=(.sc (.I (valD D o.b))))] [] [.au,.au,.au,.au,.au,.au,.nm (.sc (.I (valD D o.a))),.au,.au,.au,.au,.au,.au,.nm (.sc (.I (valD D o.b))),.au,.au] [0,1,3,6,9,10,11] [1,2,3,4,5,6] hS mixed hE ⟨look_iv D o.a,look_iv D o.b,trivial⟩ fun a w hS=>?_
 refine wp_seq_k fun K1 hK1=>?_
 refine PX.G [(.e 32 (.J 3))] [] 7 [] [] [.au,.au] [0,1,3,6,9,10,11,32] [1,2,3,4,5,6] hS hE trivial fun a w hS=>?_
 refine wp_block ?_
 refine PX.G [(.e 45 (.sc (.bool false)))] [] 7 [] [] [.au,.au] [0,1,3,6,9,10,11,32,45] [1,2,3,4,5,6] hS hE trivial fun a w hS=>?_
 refine PX.cond_s false hS (by kernel_rfl) (fun h2=>nomatch h2) (fun h2=>?_)
 refine PX.G [(.e 55 (.sc (.bool false)))] [] 7 [] [] [.au,.au] [0,1,3,6,9,10,11,32,55] [1,2,3,4,5,6] hS hE trivial fun a w hS=>?_
 refine PX.cond_s false hS (by kernel_rfl) (fun h3=>nomatch h3) (fun h3=>?_)
 refine PX.G [(.e 64 (.sc (.bool false)))] [] 7 [] [] [.au,.au] [0,1,3,6,9,10,11,32,64] [1,2,3,4,5,6] hS hE trivial fun a w hS=>?_
 refine PX.cond_s false hS (by kernel_rfl) (fun h4=>nomatch h4) (fun h4=>?_)
 refine PX.G [(.e 104 (.sc (.bool false)))] [] 7 [] [] [.au,.au] [0,1,3,6,9,10,11,32,104] [1,2,3,4,5,6] hS hE trivial fun a w hS=>?_
 refine PX.cond_s false hS (by kernel_rfl) (fun h5=>nomatch h5) (fun h5=>?_)
 refine PX.G [(.e 132 (.sc (.bool false)))] [] 7 [] [] [.au,.au] [0,1,3,6,9,10,11,32,132] [1,2,3,4,5,6] hS hE trivial fun a w hS=>?_
 refine PX.cond_s false hS (by kernel_rfl) (fun h6=>nomatch h6) (fun h6=>?_)
 refine PX.G [(.e 151 (.sc (.bool false)))] [] 7 [] [] [.au,.au] [0,1,3,6,9,10,11,32,151] [1,2,3,4,5,6] hS hE trivial fun a w hS=>?_
 refine PX.cond_s false hS (by kernel_rfl) (fun h7=>nomatch h7) (fun h7=>?_)
 refine wp_seq_k fun K8 hK8=>?_
 refine PX.G [(.e 165 (.sc (.bool false)))] [] 7 [] [] [.au,.au] [0,1,3,6,9,10,11,32,165] [1,2,3,4,5,6] hS hE trivial fun a w hS=>?_
 refine PX.cond_s false hS (by kernel_rfl) (fun h9=>nomatch h9) (fun h9=>?_)
 refine PX.G0 [(.e 165 (.sc (.bool false)))] [] 7 [] [] [.au,.au] [0,1,3,6,9,10,11,32,165] [1,2,3,4,5,6] hS hE trivial fun a w hS=>?_
 refine hK8 _ _ ?_
 refine PX.cond_s false hS (by kernel_rfl) (fun h10=>nomatch h10) (fun h10=>?_)
 refine PX.G [(.e 209 (.sc (.bool false)))] [] 7 [] [] [.au,.au] [1,9,10,11,209] [1,2,3,4,6] hS hE trivial fun a w hS=>?_
 refine PX.cond_s false hS (by kernel_rfl) (fun h11=>nomatch h11) (fun h11=>?_)
 refine PX.D0 [] [(3,.mp (PX.updV (iv D) o.dst (.I (IntKind.i64.wrap ((valD D o.a)+(valD D o.b))))))] 7 [.q (PX.Con Try.prog 133 [(.J 0),(.sc (.I (valD D o.a))),(.sc (.I (valD D o.b)))] [] 7 7 (.sc (.I (IntKind.i64.wrap ((valD D o.a)+(valD D o.b))))) [])] [] [.au,.au,.au,.au,.au,.au,.au,.au,.au,.au,.au,.cl [] (.sc (.I (IntKind.i64.wrap ((valD D o.a)+(valD D o.b))))) [] 7,.au] [] [1,2,3,4] hS mixed hE ⟨PX.con_any (con_f133a _ _),trivial⟩ fun a w hS=>?_
 refine hK1 _ _ ?_
 refine PX.G [(.e 8 (.sc (.bool true)))] [] 7 [] [] [.au] [8] [1,2,3,4] hS hE trivial fun a w hS=>?_
 refine wp_ret ?_
 rw [show (PX.updV (iv D) o.dst (.I (IntKind.i64.wrap ((valD D o.a)+(valD D o.b)))))=(iv (updI D o.dst (IntKind.i64.wrap ((valD D o.a)+(valD D o.b))))) from upd_iv D _ _] at hS
 exact PX.rt hS hE (.inl rfl)

set_option maxHeartbeats 1000000 in
theorem con_op4 (c:CodeD) (steps n e err val:Int) (D:List (Int × Int)) (ln:Nat) (lr:List (List PX.PV)) (b:BlockD) (k:Nat) (o:OpD) (hy:b.ops[k]?=some o) (hk:o.kind=4) (hbl:b.ops.length≤1000000) (hnb:∀ o∈b.ops,o.kind≠21):PX.Con Try.prog 95 [(.ptr 1 0),(.ptr 2 0),(.agg (encB b)),(.sc (.I (k:Int)))] [(1,.box 116 [(.sc (.slice none 0 0)),(.sc (.slice none 0 0)),(.sc (.slice none 0 0)),(.sc (.slice none 0 0)),(.imm 4 ([[(.J c.params),(.imm 10 (c.blocks.map encB)),(.imm 3 (c.contexts.map encR)),(.imm 3 ([]))]])),(.J steps),(.J 0),(.J 0),(.J n),(.J e),(.own 4 1 ln),(.sc (.slice none 0 0)),(.J err),(.sc (.bool false)),(.J val),(.sc (.slice none 0 0))]),(2,.box 142 [(.J 0),.any,(.map 3),.any,.any,.any,.any,.any,.any,.any,.any]),(3,.mp (iv D)),(4,.row 138 1 true lr)] 5 100000 (.sc (.bool true)) [(1,some (.box 116 [(.sc (.slice none 0 0)),(.sc (.slice none 0 0)),(.sc (.slice none 0 0)),(.sc (.slice none 0 0)),(.imm 4 ([[(.J c.params),(.imm 10 (c.blocks.map encB)),(.imm 3 (c.contexts.map encR)),(.imm 3 ([]))]])),(.J steps),(.J 0),(.J 0),(.J n),(.J e),(.own 4 1 ln),(.sc (.slice none 0 0)),(.J err),(.sc (.bool false)),(.J val),(.sc (.slice none 0 0))])),(2,some (.box 142 [(.J 0),.any,(.map 3),.any,.any,.any,.any,.any,.any,.any,.any])),(3,some (.mp (iv (updI D o.dst (IntKind.i64.wrap ((valD D o.a)-(valD D o.b))))))),(4,some (.row 138 1 true lr))]:=by
 refine PX.con_intro [(.ptr 1 0),(.ptr 2 0),(.agg (encB b)),(.sc (.I (k:Int)))] 211 Try.func95 rfl rfl (by kernel_rfl) (by kernel_rfl) ?_
 intro E a hE hS
 generalize E.w0=w at hS ⊢
 have mix:=mixed
 refine PX.G [(.e 6 (.ptr 5 0))] [(5,.box 62 (encB b))] 6 [] [] [.au,.au] [0,1,3,6] [1,2,3,4,5] hS hE trivial fun a w hS=>?_
 refine PX.G [(.e 9 (.ptr 6 0))] [(6,.box 74 (encO o))] 7 [.q ((k:Int)=(k:Int)),.q ((b.ops.map encO)[k]?=some (encO o))] [] [.au,.au,.au,.ix k (encO o),.au,.au,.au] [0,1,3,6,9] [1,2,3,4,5,6] hS hE ⟨rfl,PX.map_get hy,trivial⟩ fun a w hS=>?_
 replace hS:=PX.recell (id:=6) (j:=0) (.sc (.I 4)) hS rfl rfl rfl (fun _ _ _ _ h=>(show PX.PV.sc (.I o.kind)=.sc (.I 4) from by rw [hk]) ▸ h)
 refine PX.D [(.e 10 (.sc (.I (valD D o.a)))),(.e 11 (.sc (.I (valD D o.b))))] [] 7 [.q ((.sc ((PX.findV (iv D) o.a).getD (.I 0)):PX.PV)=(.sc (.I (valD D o.a)))),.q ((.sc ((PX.findV (iv D) o.b).getD (.I 0)):PX.PV)=(.sc (.I (valD D o.b))))] [] [.au,.au,.au,.au,.au,.au,.nm (.sc (.I (valD D o.a))),.au,.au,.au,.au,.au,.au,.nm (.sc (.I (valD D o.b))),.au,.au] [0,1,3,6,9,10,11] [1,2,3,4,5,6] hS mixed hE ⟨look_iv D o.a,look_iv D o.b,trivial⟩ fun a w hS=>?_
 refine wp_seq_k fun K1 hK1=>?_
 refine PX.G [(.e 32 (.J 4))] [] 7 [] [] [.au,.au] [0,1,3,6,9,10,11,32] [1,2,3,4,5,6] hS hE trivial fun a w hS=>?_
 refine wp_block ?_
 refine PX.G [(.e 45 (.sc (.bool false)))] [] 7 [] [] [.au,.au] [0,1,3,6,9,10,11,32,45] [1,2,3,4,5,6] hS hE trivial fun a w hS=>?_
 refine PX.cond_s false hS (by kernel_rfl) (fun h2=>nomatch h2) (fun h2=>?_)
 refine PX.G [(.e 55 (.sc (.bool false)))] [] 7 [] [] [.au,.au] [0,1,3,6,9,10,11,32,55] [1,2,3,4,5,6] hS hE trivial fun a w hS=>?_
 refine PX.cond_s false hS (by kernel_rfl) (fun h3=>nomatch h3) (fun h3=>?_)
 refine PX.G [(.e 64 (.sc (.bool false)))] [] 7 [] [] [.au,.au] [0,1,3,6,9,10,11,32,64] [1,2,3,4,5,6] hS hE trivial fun a w hS=>?_
 refine PX.cond_s false hS (by kernel_rfl) (fun h4=>nomatch h4) (fun h4=>?_)
 refine PX.G [(.e 104 (.sc (.bool false)))] [] 7 [] [] [.au,.au] [0,1,3,6,9,10,11,32,104] [1,2,3,4,5,6] hS hE trivial fun a w hS=>?_
 refine PX.cond_s false hS (by kernel_rfl) (fun h5=>nomatch h5) (fun h5=>?_)
 refine PX.G [(.e 132 (.sc (.bool false)))] [] 7 [] [] [.au,.au] [0,1,3,6,9,10,11,32,132] [1,2,3,4,5,6] hS hE trivial fun a w hS=>?_
 refine PX.cond_s false hS (by kernel_rfl) (fun h6=>nomatch h6) (fun h6=>?_)
 refine PX.G [(.e 151 (.sc (.bool false)))] [] 7 [] [] [.au,.au] [0,1,3,6,9,10,11,32,151] [1,2,3,4,5,6] hS hE trivial fun a w hS=>?_
 refine PX.cond_s false hS (by kernel_rfl) (fun h7=>nomatch h7) (fun h7=>?_)
 refine wp_seq_k fun K8 hK8=>?_
 refine PX.G [(.e 165 (.sc (.bool false)))] [] 7 [] [] [.au,.au] [0,1,3,6,9,10,11,32,165] [1,2,3,4,5,6] hS hE trivial fun a w hS=>?_
 refine PX.cond_s false hS (by kernel_rfl) (fun h9=>nomatch h9) (fun h9=>?_)
 refine PX.G0 [(.e 165 (.sc (.bool false)))] [] 7 [] [] [.au,.au] [0,1,3,6,9,10,11,32,165] [1,2,3,4,5,6] hS hE trivial fun a w hS=>?_
 refine hK8 _ _ ?_
 refine PX.cond_s false hS (by kernel_rfl) (fun h10=>nomatch h10) (fun h10=>?_)
 refine PX.G [(.e 209 (.sc (.bool false)))] [] 7 [] [] [.au,.au] [1,9,10,11,209] [1,2,3,4,6] hS hE trivial fun a w hS=>?_
 refine PX.cond_s false hS (by kernel_rfl) (fun h11=>nomatch h11) (fun h11=>?_)
 refine PX.D0 [] [(3,.mp (PX.updV (iv D) o.dst (.I (IntKind.i64.wrap ((valD D o.a)-(valD D o.b))))))] 7 [.q (PX.Con Try.prog 133 [(.J 1),(.sc (.I (valD D o.a))),(.sc (.I (valD D o.b)))] [] 7 7 (.sc (.I (IntKind.i64.wrap ((valD D o.a)-(valD D o.b))))) [])] [] [.au,.au,.au,.au,.au,.au,.au,.au,.au,.au,.au,.cl [] (.sc (.I (IntKind.i64.wrap ((valD D o.a)-(valD D o.b))))) [] 7,.au] [] [1,2,3,4] hS mixed hE ⟨PX.con_any (con_f133s _ _),trivial⟩ fun a w hS=>?_
 refine hK1 _ _ ?_
 refine PX.G [(.e 8 (.sc (.bool true)))] [] 7 [] [] [.au] [8] [1,2,3,4] hS hE trivial fun a w hS=>?_
 refine wp_ret ?_
 rw [show (PX.updV (iv D) o.dst (.I (IntKind.i64.wrap ((valD D o.a)-(valD D o.b)))))=(iv (updI D o.dst (IntKind.i64.wrap ((valD D o.a)-(valD D o.b))))) from upd_iv D _ _] at hS
 exact PX.rt hS hE (.inl rfl)

set_option maxHeartbeats 1000000 in
theorem con_op19y (c:CodeD) (steps n e err val:Int) (D:List (Int × Int)) (ln:Nat) (lr:List (List PX.PV)) (b:BlockD) (k:Nat) (o:OpD) (hy:b.ops[k]?=some o) (hk:o.kind=19) (hbl:b.ops.length≤1000000) (hnb:∀ o∈b.ops,o.kind≠21) (h0:decide (steps≤n)=false):PX.Con Try.prog 95 [(.ptr 1 0),(.ptr 2 0),(.agg (encB b)),(.sc (.I (k:Int)))] [(1,.box 116 [(.sc (.slice none 0 0)),(.sc (.slice none 0 0)),(.sc (.slice none 0 0)),(.sc (.slice none 0 0)),(.imm 4 ([[(.J c.params),(.imm 10 (c.blocks.map encB)),(.imm 3 (c.contexts.map encR)),(.imm 3 ([]))]])),(.J steps),(.J 0),(.J 0),(.J n),(.J e),(.own 4 1 ln),(.sc (.slice none 0 0)),(.J err),(.sc (.bool false)),(.J val),(.sc (.slice none 0 0))]),(2,.box 142 [(.J 0),.any,(.map 3),.any,.any,.any,.any,.any,.any,.any,.any]),(3,.mp (iv D)),(4,.row 138 1 true lr)] 5 100000 (.sc (.bool true)) [(1,some (.box 116 [(.sc (.slice none 0 0)),(.sc (.slice none 0 0)),(.sc (.slice none 0 0)),(.sc (.slice none 0 0)),(.imm 4 ([[(.J c.params),(.imm 10 (c.blocks.map encB)),(.imm 3 (c.contexts.map encR)),(.imm 3 ([]))]])),(.J steps),(.J 0),(.J 0),(.sc (.I (IntKind.i64.wrap (n+1)))),(.J 0),(.own 4 1 ln),(.sc (.slice none 0 0)),(.J err),(.sc (.bool false)),(.J val),(.sc (.slice none 0 0))])),(2,some (.box 142 [(.J 0),.any,(.map 3),.any,.any,.any,.any,.any,.any,.any,.any])),(3,some (.mp (iv D))),(4,some (.row 138 1 true lr))]:=by
 refine PX.con_intro [(.ptr 1 0),(.ptr 2 0),(.agg (encB b)),(.sc (.I (k:Int)))] 211 Try.func95 rfl rfl (by kernel_rfl) (by kernel_rfl) ?_
 intro E a hE hS
 generalize E.w0=w at hS ⊢
 have mix:=mixed
 refine PX.G [(.e 6 (.ptr 5 0))] [(5,.box 62 (encB b))] 6 [] [] [.au,.au] [0,1,3,6] [1,2,3,4,5] hS hE trivial fun a w hS=>?_
 refine PX.G [(.e 9 (.ptr 6 0))] [(6,.box 74 (encO o))] 7 [.q ((k:Int)=(k:Int)),.q ((b.ops.map encO)[k]?=some (encO o))] [] [.au,.au,.au,.ix k (encO o),.au,.au,.au] [0,1,3,6,9] [1,2,3,4,5,6] hS hE ⟨rfl,PX.map_get hy,trivial⟩ fun a w hS=>?_
 replace hS:=PX.recell (id:=6) (j:=0) (.sc (.I 19)) hS rfl rfl rfl (fun _ _ _ _ h=>(show PX.PV.sc (.I o.kind)=.sc (.I 19) from by rw [hk]) ▸ h)
 refine PX.D [(.e 10 (.sc (.I (valD D o.a)))),(.e 11 (.sc (.I (valD D o.b))))] [] 7 [.q ((.sc ((PX.findV (iv D) o.a).getD (.I 0)):PX.PV)=(.sc (.I (valD D o.a)))),.q ((.sc ((PX.findV (iv D) o.b).getD (.I 0)):PX.PV)=(.sc (.I (valD D o.b))))] [] [.au,.au,.au,.au,.au,.au,.nm (.sc (.I (valD D o.a))),.au,.au,.au,.au,.au,.au,.nm (.sc (.I (valD D o.b))),.au,.au] [0,1,3,6,9,10,11] [1,2,3,4,5,6] hS mixed hE ⟨look_iv D o.a,look_iv D o.b,trivial⟩ fun a w hS=>?_
 refine wp_seq_k fun K1 hK1=>?_
 refine PX.G [(.e 32 (.J 19))] [] 7 [] [] [.au,.au] [0,1,3,6,9,10,11,32] [1,2,3,4,5,6] hS hE trivial fun a w hS=>?_
 refine wp_block ?_
 refine PX.G [(.e 45 (.sc (.bool false)))] [] 7 [] [] [.au,.au] [0,1,3,6,9,10,11,32,45] [1,2,3,4,5,6] hS hE trivial fun a w hS=>?_
 refine PX.cond_s false hS (by kernel_rfl) (fun h2=>nomatch h2) (fun h2=>?_)
 refine PX.G [(.e 55 (.sc (.bool false)))] [] 7 [] [] [.au,.au] [0,1,3,6,9,10,11,32,55] [1,2,3,4,5,6] hS hE trivial fun a w hS=>?_
 refine PX.cond_s false hS (by kernel_rfl) (fun h3=>nomatch h3) (fun h3=>?_)
 refine PX.G [(.e 64 (.sc (.bool false)))] [] 7 [] [] [.au,.au] [0,1,3,6,9,10,11,32,64] [1,2,3,4,5,6] hS hE trivial fun a w hS=>?_
 refine PX.cond_s false hS (by kernel_rfl) (fun h4=>nomatch h4) (fun h4=>?_)
 refine PX.G [(.e 104 (.sc (.bool false)))] [] 7 [] [] [.au,.au] [0,1,3,6,9,10,11,32,104] [1,2,3,4,5,6] hS hE trivial fun a w hS=>?_
 refine PX.cond_s false hS (by kernel_rfl) (fun h5=>nomatch h5) (fun h5=>?_)
 refine PX.G [(.e 132 (.sc (.bool false)))] [] 7 [] [] [.au,.au] [0,1,3,6,9,10,11,32,132] [1,2,3,4,5,6] hS hE trivial fun a w hS=>?_
 refine PX.cond_s false hS (by kernel_rfl) (fun h6=>nomatch h6) (fun h6=>?_)
 refine PX.G [(.e 151 (.sc (.bool false)))] [] 7 [] [] [.au,.au] [0,1,3,6,9,10,11,32,151] [1,2,3,4,5,6] hS hE trivial fun a w hS=>?_
 refine PX.cond_s false hS (by kernel_rfl) (fun h7=>nomatch h7) (fun h7=>?_)
 refine wp_seq_k fun K8 hK8=>?_
 refine PX.G [(.e 165 (.sc (.bool true)))] [] 7 [] [] [.au,.au] [0,1,3,6,9,10,11,32,165] [1,2,3,4,5,6] hS hE trivial fun a w hS=>?_
 refine PX.cond_s true hS (by kernel_rfl) (fun h9=>?_) (fun h9=>nomatch h9)
 refine wp_skip ?_
 refine hK8 _ _ ?_
 refine PX.cond_s true hS (by kernel_rfl) (fun h10=>?_) (fun h10=>nomatch h10)
 refine wp_seq_k fun K11 hK11=>?_
 refine PX.D [(.e 181 (.sc (.bool (decide (steps≤n)))))] [] 7 [] [] [.au,.au,.au,.au,.au,.au,.au,.au,.au,.au,.au,.au,.au,.au] [0,1,3,6,9,181] [1,2,3,4,5,6] hS mixed hE trivial fun a w hS=>?_
 refine PX.cond_s (decide (steps≤n)) hS (by kernel_rfl) (fun h12=>nomatch (h0.symm.trans h12)) (fun h12=>?_)
 refine wp_skip ?_
 refine hK11 _ _ ?_
 refine PX.D [] [(2,.box 142 [(.J 0),.any,(.map 3),.any,(.J o.ctx),(.J o.n),(.sc (.slice none 0 0)),.any,.any,.any,.any])] 7 [.q ((0:Nat)≤k),.q (k≤(b.ops.map encO).length),.q (((b.ops.map encO).take k).drop 0=(b.ops.take k).map encO),.q ((0:Nat)=0),.q ((k:Int)=(k:Int)),.q (PX.Con Try.prog 132 [(.imm 11 ((b.ops.take k).map encO))] [] 7 7 (.sc (.slice none 0 0)) [])] [] [.au,.au,.au,.au,.au,.au,.au,.au,.au,.au,.sl 0 k ((b.ops.take k).map encO),.cl [] (.sc (.slice none 0 0)) [] 7,.au,.au,.au,.au,.au,.au,.au,.au,.au] [0,9] [1,2,3,4,6] hS mixed hE ⟨Nat.zero_le _,by have:=(List.getElem?_eq_some_iff.1 hy).1; simp; omega,by simp [List.map_take],rfl,rfl,PX.con_any (con_f132 (b.ops.take k) (by rw [List.length_take]; omega) (fun o ho=>hnb o (List.mem_of_mem_take ho))),trivial⟩ fun a w hS=>?_
 replace hS:=PX.recell (id:=2) (j:=4) .any hS rfl rfl rfl (PX.any_of rfl)
 replace hS:=PX.recell (id:=2) (j:=5) .any hS rfl rfl rfl (PX.any_of rfl)
 replace hS:=PX.recell (id:=2) (j:=6) .any hS rfl rfl rfl (PX.any_of rfl)
 refine PX.G [(.e 8 (.sc (.bool true)))] [(1,.box 116 [(.sc (.slice none 0 0)),(.sc (.slice none 0 0)),(.sc (.slice none 0 0)),(.sc (.slice none 0 0)),(.imm 4 ([[(.J c.params),(.imm 10 (c.blocks.map encB)),(.imm 3 (c.contexts.map encR)),(.imm 3 ([]))]])),(.J steps),(.J 0),(.J 0),(.sc (.I (IntKind.i64.wrap (n+1)))),(.J 0),(.own 4 1 ln),(.sc (.slice none 0 0)),(.J err),(.sc (.bool false)),(.J val),(.sc (.slice none 0 0))])] 7 [.q (PX.Con Try.prog 131 [(.ptr 1 0)] [(1,.box 116 [(.sc (.slice none 0 0)),(.sc (.slice none 0 0)),(.sc (.slice none 0 0)),(.sc (.slice none 0 0)),(.imm 4 ([[(.J c.params),(.imm 10 (c.blocks.map encB)),(.imm 3 (c.contexts.map encR)),(.imm 3 ([]))]])),(.J steps),(.J 0),(.J 0),(.J n),(.J e),(.own 4 1 ln),(.sc (.slice none 0 0)),(.J err),(.sc (.bool false)),(.J val),(.sc (.slice none 0 0))]),(2,.box 142 [(.J 0),.any,(.map 3),.any,.any,.any,.any,.any,.any,.any,.any]),(3,.mp (iv D)),(4,.row 138 1 true lr)] 7 7 (.sc (.bool true)) [(1,some (.box 116 [(.sc (.slice none 0 0)),(.sc (.slice none 0 0)),(.sc (.slice none 0 0)),(.sc (.slice none 0 0)),(.imm 4 ([[(.J c.params),(.imm 10 (c.blocks.map encB)),(.imm 3 (c.contexts.map encR)),(.imm 3 ([]))]])),(.J steps),(.J 0),(.J 0),(.sc (.I (IntKind.i64.wrap (n+1)))),(.J 0),(.own 4 1 ln),(.sc (.slice none 0 0)),(.J err),(.sc (.bool false)),(.J val),(.sc (.slice none 0 0))])),(2,some (.box 142 [(.J 0),.any,(.map 3),.any,.any,.any,.any,.any,.any,.any,.any])),(3,some (.mp (iv D))),(4,some (.row 138 1 true lr))])] [] [.au,.au,.au,.au,.au,.cl [1,2,3,4] (.sc (.bool true)) [(1,some (.box 116 [(.sc (.slice none 0 0)),(.sc (.slice none 0 0)),(.sc (.slice none 0 0)),(.sc (.slice none 0 0)),(.imm 4 ([[(.J c.params),(.imm 10 (c.blocks.map encB)),(.imm 3 (c.contexts.map encR)),(.imm 3 ([]))]])),(.J steps),(.J 0),(.J 0),(.sc (.I (IntKind.i64.wrap (n+1)))),(.J 0),(.own 4 1 ln),(.sc (.slice none 0 0)),(.J err),(.sc (.bool false)),(.J val),(.sc (.slice none 0 0))])),(2,some (.box 142 [(.J 0),.any,(.map 3),.any,.any,.any,.any,.any,.any,.any,.any])),(3,some (.mp (iv D))),(4,some (.row 138 1 true lr))] 7,.au,.au] [8] [1,2,3,4] hS hE ⟨PX.con_as [(1,1),(2,2),(3,3),(4,4)] [(1,1),(2,2),(3,3),(4,4)] (con_f131y c steps n e err val D ln lr h0) (by kernel_rfl) (by kernel_rfl) (by kernel_rfl) (by kernel_rfl) (by kernel_rfl) (by kernel_rfl),trivial⟩ fun a w hS=>?_
 refine wp_ret ?_
 exact PX.rt hS hE (.inl rfl)

set_option maxHeartbeats 1000000 in
theorem con_op19n (c:CodeD) (steps n e err val:Int) (D:List (Int × Int)) (ln:Nat) (lr:List (List PX.PV)) (b:BlockD) (k:Nat) (o:OpD) (hy:b.ops[k]?=some o) (hk:o.kind=19) (hbl:b.ops.length≤1000000) (hnb:∀ o∈b.ops,o.kind≠21) (h0:decide (steps≤n)=true):PX.Con Try.prog 95 [(.ptr 1 0),(.ptr 2 0),(.agg (encB b)),(.sc (.I (k:Int)))] [(1,.box 116 [(.sc (.slice none 0 0)),(.sc (.slice none 0 0)),(.sc (.slice none 0 0)),(.sc (.slice none 0 0)),(.imm 4 ([[(.J c.params),(.imm 10 (c.blocks.map encB)),(.imm 3 (c.contexts.map encR)),(.imm 3 ([]))]])),(.J steps),(.J 0),(.J 0),(.J n),(.J e),(.own 4 1 ln),(.sc (.slice none 0 0)),(.J err),(.sc (.bool false)),(.J val),(.sc (.slice none 0 0))]),(2,.box 142 [(.J 0),.any,(.map 3),.any,.any,.any,.any,.any,.any,.any,.any]),(3,.mp (iv D)),(4,.row 138 1 true lr)] 5 100000 (.sc (.bool false)) [(1,some (.box 116 [(.sc (.slice none 0 0)),(.sc (.slice none 0 0)),(.sc (.slice none 0 0)),(.sc (.slice none 0 0)),(.imm 4 ([[(.J c.params),(.imm 10 (c.blocks.map encB)),(.imm 3 (c.contexts.map encR)),(.imm 3 ([]))]])),(.J steps),(.J 0),(.J 0),(.J n),(.J e),(.own 4 1 ln),(.sc (.slice none 0 0)),(.J 13),(.sc (.bool false)),(.J val),(.sc (.slice none 0 0))])),(2,some (.box 142 [(.J 0),.any,(.map 3),.any,.any,.any,.any,.any,.any,.any,.any])),(3,some (.mp (iv D))),(4,some (.row 138 1 true lr))]:=by
 refine PX.con_intro [(.ptr 1 0),(.ptr 2 0),(.agg (encB b)),(.sc (.I (k:Int)))] 211 Try.func95 rfl rfl (by kernel_rfl) (by kernel_rfl) ?_
 intro E a hE hS
 generalize E.w0=w at hS ⊢
 have mix:=mixed
 refine PX.G [(.e 6 (.ptr 5 0))] [(5,.box 62 (encB b))] 6 [] [] [.au,.au] [0,1,3,6] [1,2,3,4,5] hS hE trivial fun a w hS=>?_
 refine PX.G [(.e 9 (.ptr 6 0))] [(6,.box 74 (encO o))] 7 [.q ((k:Int)=(k:Int)),.q ((b.ops.map encO)[k]?=some (encO o))] [] [.au,.au,.au,.ix k (encO o),.au,.au,.au] [0,1,3,6,9] [1,2,3,4,5,6] hS hE ⟨rfl,PX.map_get hy,trivial⟩ fun a w hS=>?_
 replace hS:=PX.recell (id:=6) (j:=0) (.sc (.I 19)) hS rfl rfl rfl (fun _ _ _ _ h=>(show PX.PV.sc (.I o.kind)=.sc (.I 19) from by rw [hk]) ▸ h)
 refine PX.D [(.e 10 (.sc (.I (valD D o.a)))),(.e 11 (.sc (.I (valD D o.b))))] [] 7 [.q ((.sc ((PX.findV (iv D) o.a).getD (.I 0)):PX.PV)=(.sc (.I (valD D o.a)))),.q ((.sc ((PX.findV (iv D) o.b).getD (.I 0)):PX.PV)=(.sc (.I (valD D o.b))))] [] [.au,.au,.au,.au,.au,.au,.nm (.sc (.I (valD D o.a))),.au,.au,.au,.au,.au,.au,.nm (.sc (.I (valD D o.b))),.au,.au] [0,1,3,6,9,10,11] [1,2,3,4,5,6] hS mixed hE ⟨look_iv D o.a,look_iv D o.b,trivial⟩ fun a w hS=>?_
 refine wp_seq_k fun K1 hK1=>?_
 refine PX.G [(.e 32 (.J 19))] [] 7 [] [] [.au,.au] [0,1,3,6,9,10,11,32] [1,2,3,4,5,6] hS hE trivial fun a w hS=>?_
 refine wp_block ?_
 refine PX.G [(.e 45 (.sc (.bool false)))] [] 7 [] [] [.au,.au] [0,1,3,6,9,10,11,32,45] [1,2,3,4,5,6] hS hE trivial fun a w hS=>?_
 refine PX.cond_s false hS (by kernel_rfl) (fun h2=>nomatch h2) (fun h2=>?_)
 refine PX.G [(.e 55 (.sc (.bool false)))] [] 7 [] [] [.au,.au] [0,1,3,6,9,10,11,32,55] [1,2,3,4,5,6] hS hE trivial fun a w hS=>?_
 refine PX.cond_s false hS (by kernel_rfl) (fun h3=>nomatch h3) (fun h3=>?_)
 refine PX.G [(.e 64 (.sc (.bool false)))] [] 7 [] [] [.au,.au] [0,1,3,6,9,10,11,32,64] [1,2,3,4,5,6] hS hE trivial fun a w hS=>?_
 refine PX.cond_s false hS (by kernel_rfl) (fun h4=>nomatch h4) (fun h4=>?_)
 refine PX.G [(.e 104 (.sc (.bool false)))] [] 7 [] [] [.au,.au] [0,1,3,6,9,10,11,32,104] [1,2,3,4,5,6] hS hE trivial fun a w hS=>?_
 refine PX.cond_s false hS (by kernel_rfl) (fun h5=>nomatch h5) (fun h5=>?_)
 refine PX.G [(.e 132 (.sc (.bool false)))] [] 7 [] [] [.au,.au] [0,1,3,6,9,10,11,32,132] [1,2,3,4,5,6] hS hE trivial fun a w hS=>?_
 refine PX.cond_s false hS (by kernel_rfl) (fun h6=>nomatch h6) (fun h6=>?_)
 refine PX.G [(.e 151 (.sc (.bool false)))] [] 7 [] [] [.au,.au] [0,1,3,6,9,10,11,32,151] [1,2,3,4,5,6] hS hE trivial fun a w hS=>?_
 refine PX.cond_s false hS (by kernel_rfl) (fun h7=>nomatch h7) (fun h7=>?_)
 refine wp_seq_k fun K8 hK8=>?_
 refine PX.G [(.e 165 (.sc (.bool true)))] [] 7 [] [] [.au,.au] [0,1,3,6,9,10,11,32,165] [1,2,3,4,5,6] hS hE trivial fun a w hS=>?_
 refine PX.cond_s true hS (by kernel_rfl) (fun h9=>?_) (fun h9=>nomatch h9)
 refine wp_skip ?_
 refine hK8 _ _ ?_
 refine PX.cond_s true hS (by kernel_rfl) (fun h10=>?_) (fun h10=>nomatch h10)
 refine wp_seq_k fun K11 hK11=>?_
 refine PX.D [(.e 181 (.sc (.bool (decide (steps≤n)))))] [] 7 [] [] [.au,.au,.au,.au,.au,.au,.au,.au,.au,.au,.au,.au,.au,.au] [0,1,3,6,9,181] [1,2,3,4,5,6] hS mixed hE trivial fun a w hS=>?_
 refine PX.cond_s (decide (steps≤n)) hS (by kernel_rfl) (fun h12=>?_) (fun h12=>nomatch (h0.symm.trans h12))
 refine PX.G [(.e 8 (.sc (.bool false)))] [(1,.box 116 [(.sc (.slice none 0 0)),(.sc (.slice none 0 0)),(.sc (.slice none 0 0)),(.sc (.slice none 0 0)),(.imm 4 ([[(.J c.params),(.imm 10 (c.blocks.map encB)),(.imm 3 (c.contexts.map encR)),(.imm 3 ([]))]])),(.J steps),(.J 0),(.J 0),(.J n),(.J e),(.own 4 1 ln),(.sc (.slice none 0 0)),(.J 13),(.sc (.bool false)),(.J val),(.sc (.slice none 0 0))])] 7 [.q (PX.Con Try.prog 131 [(.ptr 1 0)] [(1,.box 116 [(.sc (.slice none 0 0)),(.sc (.slice none 0 0)),(.sc (.slice none 0 0)),(.sc (.slice none 0 0)),(.imm 4 ([[(.J c.params),(.imm 10 (c.blocks.map encB)),(.imm 3 (c.contexts.map encR)),(.imm 3 ([]))]])),(.J steps),(.J 0),(.J 0),(.J n),(.J e),(.own 4 1 ln),(.sc (.slice none 0 0)),(.J err),(.sc (.bool false)),(.J val),(.sc (.slice none 0 0))]),(2,.box 142 [(.J 0),.any,(.map 3),.any,.any,.any,.any,.any,.any,.any,.any]),(3,.mp (iv D)),(4,.row 138 1 true lr)] 7 7 (.sc (.bool false)) [(1,some (.box 116 [(.sc (.slice none 0 0)),(.sc (.slice none 0 0)),(.sc (.slice none 0 0)),(.sc (.slice none 0 0)),(.imm 4 ([[(.J c.params),(.imm 10 (c.blocks.map encB)),(.imm 3 (c.contexts.map encR)),(.imm 3 ([]))]])),(.J steps),(.J 0),(.J 0),(.J n),(.J e),(.own 4 1 ln),(.sc (.slice none 0 0)),(.J 13),(.sc (.bool false)),(.J val),(.sc (.slice none 0 0))])),(2,some (.box 142 [(.J 0),.any,(.map 3),.any,.any,.any,.any,.any,.any,.any,.any])),(3,some (.mp (iv D))),(4,some (.row 138 1 true lr))])] [] [.au,.cl [1,2,3,4] (.sc (.bool false)) [(1,some (.box 116 [(.sc (.slice none 0 0)),(.sc (.slice none 0 0)),(.sc (.slice none 0 0)),(.sc (.slice none 0 0)),(.imm 4 ([[(.J c.params),(.imm 10 (c.blocks.map encB)),(.imm 3 (c.contexts.map encR)),(.imm 3 ([]))]])),(.J steps),(.J 0),(.J 0),(.J n),(.J e),(.own 4 1 ln),(.sc (.slice none 0 0)),(.J 13),(.sc (.bool false)),(.J val),(.sc (.slice none 0 0))])),(2,some (.box 142 [(.J 0),.any,(.map 3),.any,.any,.any,.any,.any,.any,.any,.any])),(3,some (.mp (iv D))),(4,some (.row 138 1 true lr))] 7,.au] [8] [1,2,3,4] hS hE ⟨PX.con_as [(1,1),(2,2),(3,3),(4,4)] [(1,1),(2,2),(3,3),(4,4)] (con_f131n c steps n e err val D ln lr h0) (by kernel_rfl) (by kernel_rfl) (by kernel_rfl) (by kernel_rfl) (by kernel_rfl) (by kernel_rfl),trivial⟩ fun a w hS=>?_
 refine wp_ret ?_
 exact PX.rt hS hE (.inl rfl)

set_option maxHeartbeats 1000000 in
theorem con_op20 (c:CodeD) (steps n e err val:Int) (D:List (Int × Int)) (ln:Nat) (lr:List (List PX.PV)) (b:BlockD) (k:Nat) (o:OpD) (hy:b.ops[k]?=some o) (hk:o.kind=20) (hbl:b.ops.length≤1000000) (hnb:∀ o∈b.ops,o.kind≠21):PX.Con Try.prog 95 [(.ptr 1 0),(.ptr 2 0),(.agg (encB b)),(.sc (.I (k:Int)))] [(1,.box 116 [(.sc (.slice none 0 0)),(.sc (.slice none 0 0)),(.sc (.slice none 0 0)),(.sc (.slice none 0 0)),(.imm 4 ([[(.J c.params),(.imm 10 (c.blocks.map encB)),(.imm 3 (c.contexts.map encR)),(.imm 3 ([]))]])),(.J steps),(.J 0),(.J 0),(.J n),(.J e),(.own 4 1 ln),(.sc (.slice none 0 0)),(.J err),(.sc (.bool false)),(.J val),(.sc (.slice none 0 0))]),(2,.box 142 [(.J 0),.any,(.map 3),.any,.any,.any,.any,.any,.any,.any,.any]),(3,.mp (iv D)),(4,.row 138 1 true lr)] 5 100000 (.sc (.bool true)) [(1,some (.box 116 [(.sc (.slice none 0 0)),(.sc (.slice none 0 0)),(.sc (.slice none 0 0)),(.sc (.slice none 0 0)),(.imm 4 ([[(.J c.params),(.imm 10 (c.blocks.map encB)),(.imm 3 (c.contexts.map encR)),(.imm 3 ([]))]])),(.J steps),(.J 0),(.J 0),(.J n),(.J e),(.own 4 1 ln),(.sc (.slice none 0 0)),(.J err),(.sc (.bool false)),(.J val),(.sc (.slice none 0 0))])),(2,some (.box 142 [(.J 0),.any,(.map 3),.any,.any,.any,.any,.any,.any,.any,.any])),(3,some (.mp (iv D))),(4,some (.row 138 1 true lr))]:=by
 refine PX.con_intro [(.ptr 1 0),(.ptr 2 0),(.agg (encB b)),(.sc (.I (k:Int)))] 211 Try.func95 rfl rfl (by kernel_rfl) (by kernel_rfl) ?_
 intro E a hE hS
 generalize E.w0=w at hS ⊢
 have mix:=mixed
 refine PX.G [(.e 6 (.ptr 5 0))] [(5,.box 62 (encB b))] 6 [] [] [.au,.au] [0,1,3,6] [1,2,3,4,5] hS hE trivial fun a w hS=>?_
 refine PX.G [(.e 9 (.ptr 6 0))] [(6,.box 74 (encO o))] 7 [.q ((k:Int)=(k:Int)),.q ((b.ops.map encO)[k]?=some (encO o))] [] [.au,.au,.au,.ix k (encO o),.au,.au,.au] [0,1,3,6,9] [1,2,3,4,5,6] hS hE ⟨rfl,PX.map_get hy,trivial⟩ fun a w hS=>?_
 replace hS:=PX.recell (id:=6) (j:=0) (.sc (.I 20)) hS rfl rfl rfl (fun _ _ _ _ h=>(show PX.PV.sc (.I o.kind)=.sc (.I 20) from by rw [hk]) ▸ h)
 refine PX.D [(.e 10 (.sc (.I (valD D o.a)))),(.e 11 (.sc (.I (valD D o.b))))] [] 7 [.q ((.sc ((PX.findV (iv D) o.a).getD (.I 0)):PX.PV)=(.sc (.I (valD D o.a)))),.q ((.sc ((PX.findV (iv D) o.b).getD (.I 0)):PX.PV)=(.sc (.I (valD D o.b))))] [] [.au,.au,.au,.au,.au,.au,.nm (.sc (.I (valD D o.a))),.au,.au,.au,.au,.au,.au,.nm (.sc (.I (valD D o.b))),.au,.au] [0,1,3,6,9,10,11] [1,2,3,4,5,6] hS mixed hE ⟨look_iv D o.a,look_iv D o.b,trivial⟩ fun a w hS=>?_
 refine wp_seq_k fun K1 hK1=>?_
 refine PX.G [(.e 32 (.J 20))] [] 7 [] [] [.au,.au] [0,1,3,6,9,10,11,32] [1,2,3,4,5,6] hS hE trivial fun a w hS=>?_
 refine wp_block ?_
 refine PX.G [(.e 45 (.sc (.bool false)))] [] 7 [] [] [.au,.au] [0,1,3,6,9,10,11,32,45] [1,2,3,4,5,6] hS hE trivial fun a w hS=>?_
 refine PX.cond_s false hS (by kernel_rfl) (fun h2=>nomatch h2) (fun h2=>?_)
 refine PX.G [(.e 55 (.sc (.bool false)))] [] 7 [] [] [.au,.au] [0,1,3,6,9,10,11,32,55] [1,2,3,4,5,6] hS hE trivial fun a w hS=>?_
 refine PX.cond_s false hS (by kernel_rfl) (fun h3=>nomatch h3) (fun h3=>?_)
 refine PX.G [(.e 64 (.sc (.bool false)))] [] 7 [] [] [.au,.au] [0,1,3,6,9,10,11,32,64] [1,2,3,4,5,6] hS hE trivial fun a w hS=>?_
 refine PX.cond_s false hS (by kernel_rfl) (fun h4=>nomatch h4) (fun h4=>?_)
 refine PX.G [(.e 104 (.sc (.bool false)))] [] 7 [] [] [.au,.au] [0,1,3,6,9,10,11,32,104] [1,2,3,4,5,6] hS hE trivial fun a w hS=>?_
 refine PX.cond_s false hS (by kernel_rfl) (fun h5=>nomatch h5) (fun h5=>?_)
 refine PX.G [(.e 132 (.sc (.bool false)))] [] 7 [] [] [.au,.au] [0,1,3,6,9,10,11,32,132] [1,2,3,4,5,6] hS hE trivial fun a w hS=>?_
 refine PX.cond_s false hS (by kernel_rfl) (fun h6=>nomatch h6) (fun h6=>?_)
 refine PX.G [(.e 151 (.sc (.bool false)))] [] 7 [] [] [.au,.au] [0,1,3,6,9,10,11,32,151] [1,2,3,4,5,6] hS hE trivial fun a w hS=>?_
 refine PX.cond_s false hS (by kernel_rfl) (fun h7=>nomatch h7) (fun h7=>?_)
 refine wp_seq_k fun K8 hK8=>?_
 refine PX.G [(.e 165 (.sc (.bool false)))] [] 7 [] [] [.au,.au] [0,1,3,6,9,10,11,32,165] [1,2,3,4,5,6] hS hE trivial fun a w hS=>?_
 refine PX.cond_s false hS (by kernel_rfl) (fun h9=>nomatch h9) (fun h9=>?_)
 refine PX.G0 [(.e 165 (.sc (.bool true)))] [] 7 [] [] [.au,.au] [0,1,3,6,9,10,11,32,165] [1,2,3,4,5,6] hS hE trivial fun a w hS=>?_
 refine hK8 _ _ ?_
 refine PX.cond_s true hS (by kernel_rfl) (fun h10=>?_) (fun h10=>nomatch h10)
 refine wp_seq_k fun K11 hK11=>?_
 refine PX.D [(.e 181 (.sc (.bool false)))] [] 7 [] [(3,false)] [.au,.au,.au,.au,.dd,.dd,.dd,.dd,.dd,.dd,.dd,.dd,.dd,.au] [0,1,3,6,9,181] [1,2,3,4,5,6] hS mixed hE trivial fun a w hS=>?_
 refine PX.cond_s false hS (by kernel_rfl) (fun h12=>nomatch h12) (fun h12=>?_)
 refine wp_skip ?_
 refine hK11 _ _ ?_
 refine PX.D [] [(2,.box 142 [(.J 0),.any,(.map 3),.any,(.J o.ctx),(.J o.n),(.sc (.slice none 0 0)),.any,.any,.any,.any])] 7 [.q ((0:Nat)≤k),.q (k≤(b.ops.map encO).length),.q (((b.ops.map encO).take k).drop 0=(b.ops.take k).map encO),.q ((0:Nat)=0),.q ((k:Int)=(k:Int)),.q (PX.Con Try.prog 132 [(.imm 11 ((b.ops.take k).map encO))] [] 7 7 (.sc (.slice none 0 0)) [])] [] [.au,.au,.au,.au,.au,.au,.au,.au,.au,.au,.sl 0 k ((b.ops.take k).map encO),.cl [] (.sc (.slice none 0 0)) [] 7,.au,.au,.au,.au,.au,.au,.au,.au,.au] [0,9] [1,2,3,4,6] hS mixed hE ⟨Nat.zero_le _,by have:=(List.getElem?_eq_some_iff.1 hy).1; simp; omega,by simp [List.map_take],rfl,rfl,PX.con_any (con_f132 (b.ops.take k) (by rw [List.length_take]; omega) (fun o ho=>hnb o (List.mem_of_mem_take ho))),trivial⟩ fun a w hS=>?_
 replace hS:=PX.recell (id:=2) (j:=4) .any hS rfl rfl rfl (PX.any_of rfl)
 replace hS:=PX.recell (id:=2) (j:=5) .any hS rfl rfl rfl (PX.any_of rfl)
 replace hS:=PX.recell (id:=2) (j:=6) .any hS rfl rfl rfl (PX.any_of rfl)
 refine PX.G [(.e 8 (.sc (.bool true)))] [] 7 [] [(3,true)] [.au,.au,.au,.au,.dd,.dd,.au,.au] [8] [1,2,3,4] hS hE trivial fun a w hS=>?_
 refine wp_ret ?_
 exact PX.rt hS hE (.inl rfl)
end Go.Proofs.Ytlkcidmmpeebeaa
