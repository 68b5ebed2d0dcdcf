/- Proved: unroll.join on plain data -/
import Derived.Test.YtlkcidmmpeebeaaDfd
import Derived.Test.YtlkcidmmpeebeaaPcD
set_option linter.unusedVariables false
set_option linter.unusedSimpArgs false
namespace Go.Proofs.Ytlkcidmmpeebeaa
open Go.RowKit Go.PX
set_option maxRecDepth 100000
def nxtF (b:BlockD) (l:List Int):Int:=l.foldl (fun n v=>mx n (IntKind.i64.wrap (v+1))) b.params
theorem nxtF_snoc (b:BlockD) (l:List Int) (x:Int):nxtF b (l++[x])=(if IntKind.i64.wrap (x+1) > nxtF b l then IntKind.i64.wrap (x+1) else nxtF b l):=by
 unfold nxtF; rw [List.foldl_append]; rfl
def numP (s:List (Int × Int) × Int × Bool) (v:Int):List (Int × Int) × Int × Bool:=(updI s.1 v s.2.1,IntKind.i64.wrap (s.2.1+1),s.2.2&&!decide (9999<s.2.1))
def numF (b:BlockD) (l:List Int):List (Int × Int) × Int × Bool:=l.foldl numP (argsN b.term.args0,nxtF b (dsts b.ops),true)
theorem numF_snoc (b:BlockD) (l:List Int) (x:Int):numF b (l++[x])=numP (numF b l) x:=by unfold numF; rw [List.foldl_append]; rfl
theorem numP_false:∀ (l:List Int) (s:List (Int × Int) × Int × Bool),s.2.2=false→(l.foldl numP s).2.2=false
 | [],s,h=>h
 | x::l,s,h=>numP_false l (numP s x) (by simp [numP,h])
theorem numF_pre {b:BlockD} {l m:List Int} (h:l <+: m) (hf:(numF b l).2.2=false):(numF b m).2.2=false:=by
 obtain ⟨t,rfl⟩:=h
 unfold numF at hf ⊢
 rw [List.foldl_append]; exact numP_false t _ hf
theorem updI_fresh:∀ (D:List (Int × Int)) (n v:Int),(∀ p∈D,n≠p.1)→updI D n v=D++[(n,v)]
 | [],n,v,_=>rfl
 | p::D,n,v,h=>by
  have h1:=h p (by simp)
  have:(n==p.1)=false:=by simpa using h1
  simp only [updI,this,cond_false,List.cons_append,updI_fresh D n v fun q hq=>h q (by simp [hq])]
theorem argsN_upd {l:List Int} {k:Nat} {y:Int} (hy:l[k]?=some y):PX.updV (iv (argsN (l.take k))) (k:Int) (.I y)=iv (argsN (l.take (k+1))):=by
 have hk:=(List.getElem?_eq_some_iff.1 hy).1
 rw [upd_iv,argsN_take hy,updI_fresh]
 intro p hp
 unfold argsN at hp
 obtain ⟨⟨v,i⟩,hq,rfl⟩:=List.mem_map.1 hp
 have:=List.mem_zipIdx' hq
 simp at this ⊢
 omega
theorem noMp_no {H:PX.Heap} (h:PX.noMp H=true) {id:Nat} {D:List (Int × Value)} (hl:PX.hlook H id=some (.mp D)):False:=by
 obtain ⟨_,x,hx,e⟩:=PX.key_of_look hl
 have:=List.all_eq_true.1 h x hx
 rw [e] at this; cases this
def valQ (b h:BlockD):Int→Int:=valD (numF b (dsts h.ops)).1
def joinQ (b h:BlockD):BlockD:={ params:=b.params,ops:=b.ops++h.ops.map (renP (numF b (dsts h.ops)).1),term:={ h.term with a:=valD (numF b (dsts h.ops)).1 h.term.a,args0:=h.term.args0.map (valD (numF b (dsts h.ops)).1),args1:=h.term.args1.map (valD (numF b (dsts h.ops)).1) } }
def zeroB:BlockD:={ params:=0,ops:=[],term:={ kind:=0,a:=0,n:=0,args:=[],b0:=0,args0:=[],b1:=0,args1:=[] } }
def okQ (b h:BlockD):Bool:=(numF b (dsts h.ops)).2.2
def jQ (b h:BlockD):BlockD:=if okQ b h=true then joinQ b h else zeroB
theorem renI_get {f:Int→Int} {l:List Int} {i:Nat} {y:Int} (hy:l[i]?=some y):((((l.take i).map f++l.drop i)).map encI)[i]?=some (encI y):=by
 have hi:=(List.getElem?_eq_some_iff.1 hy).1
 rw [List.getElem?_map,List.getElem?_append_right (by simp; omega),List.getElem?_drop,show i+(i-((l.take i).map f).length)=i by simp; omega,hy]; rfl
theorem renI_set {f:Int→Int} {l:List Int} {i:Nat} {y:Int} (hy:l[i]?=some y):((((l.take i).map f++l.drop i)).map encI).set i [.sc (.I (f y))]=((l.take (i+1)).map f++l.drop (i+1)).map encI:=by
 have hi:=(List.getElem?_eq_some_iff.1 hy).1
 have e:l.drop i=y::l.drop (i+1):=by
  rw [List.drop_eq_getElem_cons hi]; congr 1; exact (List.getElem?_eq_some_iff.1 hy).2
 have hl:((l.take i).map f).length=i:=by simp; omega
 rw [e,List.take_add_one,hy]
 simp only [List.map_append,List.map_cons,Option.toList_some,List.map_nil,List.append_assoc,List.singleton_append]
 rw [List.set_append_right _ _ (by simp; omega)]
 first | (simp [encI,show min i l.length=i by omega]; done) | (simp [encI,show min i l.length=i by omega]; omega)

set_option maxHeartbeats 400000 in
theorem con_f134 (ops:List OpD):PX.Con Try.prog 134 [(.imm 11 (ops.map encO))] [] 1 100000 (.fn 160 [] [.ptr 1 0]) [(1,some (.box 55 [(.imm 11 (ops.map encO))]))]:=by
 refine PX.con_intro [(.imm 11 (ops.map encO))] 4 Try.func134 rfl rfl (by kernel_rfl) (by kernel_rfl) ?_
 intro E a hE hS
 generalize E.w0=w at hS ⊢
 have mix:=mixed
 refine PX.G [(.e 1 (.ptr 1 0))] [(1,.box 55 [(.imm 11 (ops.map encO))])] 2 [] [] [.au,.au] [1] [1] hS hE trivial fun a w hS=>?_
 refine PX.G [(.e 2 (.fn 160 [] [(.ptr 1 0)]))] [] 2 [] [] [.au,.au] [2] [1] hS hE trivial fun a w hS=>?_
 refine wp_ret ?_
 try simp only [Exit.then,Exit.inBlock,Nat.reduceEqDiff,↓reduceIte]
 exact PX.ret_s hS hE (by kernel_rfl) (by kernel_rfl) (by kernel_rfl) (.inl rfl)

set_option maxHeartbeats 2000000 in
theorem join_con (b u:BlockD) (ib:BlkI b) (iu:BlkI u) (lb:b.ops.length≤6000) (lh:u.ops.length≤6000) (tb:b.term.args.length≤999∧b.term.args0.length≤999∧b.term.args1.length≤999) (th:u.term.args.length≤999∧u.term.args0.length≤999∧u.term.args1.length≤999):PX.Con Try.prog 101 [(.agg (encB b)),(.agg (encB u))] [] 1 100000 (.tup [.agg (encB (jQ b u)),.sc (.bool (okQ b u))]) []:=by
 refine PX.con_intro_w (n:=5) [(.agg (encB b)),(.agg (encB u))] 113 Try.func101 rfl rfl (by kernel_rfl) rfl ?_
 intro E a hE hS
 obtain ⟨w,hw0⟩:∃ w,w=E.w0:=⟨_,rfl⟩
 rw [← hw0] at hS ⊢
 have mix:=mixed
 refine PX.Gw [(.e 2 (.ptr 1 0)),(.e 3 (.ptr 2 0)),(.e 4 (.ptr 3 0)),(.e 5 (.ptr 4 0))] [(1,.box 62 (encB b)),(2,.box 62 (encB u)),(3,.box 62 [(.J 0),(.sc (.slice none 0 0)),(.J 0),(.J 0),(.J 0),(.sc (.slice none 0 0)),(.J 0),(.sc (.slice none 0 0)),(.J 0),(.sc (.slice none 0 0))]),(4,.box 4 [(.sc (.bool false))])] 5 [] [] [.au,.au,.au,.au] [2,3,4,5] [1,2,3,4] hS hE trivial fun a w hS=>?_
 refine PX.Gw [(.e 6 (.ptr 5 0))] [(5,.box 3 [(.J b.params)])] 6 [] [] [.au,.au,.au,.au] [2,3,4,5,6] [1,2,3,4,5] hS hE trivial fun a w hS=>?_
 refine wpIn_seq_k fun K1 hK1=>?_
 refine PX.Gw [(.e 24 (.fn 160 [] [(.ptr 6 0)]))] [(6,.box 55 [(.imm 11 (b.ops.map encO))])] 7 [.q (PX.Con Try.prog 134 [(.imm 11 (b.ops.map encO))] [] 6 7 (.fn 160 [] [(.ptr 6 0)]) [(6,some (.box 55 [(.imm 11 (b.ops.map encO))]))])] [] [.au,.au,.cl [] (.fn 160 [] [(.ptr 6 0)]) [(6,some (.box 55 [(.imm 11 (b.ops.map encO))]))] 7] [2,3,4,5,6,24] [1,2,3,4,5,6] hS hE ⟨PX.con_as [(6,1)] [(1,6)] (con_f134 b.ops) (by kernel_rfl) (by kernel_rfl) (by kernel_rfl) (by kernel_rfl) (by kernel_rfl) (by kernel_rfl),trivial⟩ fun a w hS=>?_
 refine wpIn_block ?_
 have hsz1:E.w0.heap.size≤w.heap.size:=by obtain ⟨_,_,q⟩:=hS; exact q.chg.size
 have hNt1:a.tmps.size=113:=by obtain ⟨_,_,q⟩:=hS; exact q.rs.size
 have hE0:=hE; have hszA:=hsz1
 refine range_dfd (ops:=b.ops) (n:=5) hS hE.etop (by decide) 6 (by kernel_rfl) (by kernel_rfl) [2,3,4,5,6] [1,2,3,4,5] (by kernel_rfl:PX.keepR _ [2,3,4,5,6]=some [(.e 2 (.ptr 1 0)),(.e 3 (.ptr 2 0)),(.e 4 (.ptr 3 0)),(.e 5 (.ptr 4 0)),(.e 6 (.ptr 5 0))]) (fun _=>True) (fun _=>False) trivial (fun pre=>[(1,.box 62 (encB b)),(2,.box 62 (encB u)),(3,.box 62 [(.J 0),(.sc (.slice none 0 0)),(.J 0),(.J 0),(.J 0),(.sc (.slice none 0 0)),(.J 0),(.sc (.slice none 0 0)),(.J 0),(.sc (.slice none 0 0))]),(4,.box 4 [(.sc (.bool false))]),(5,.box 3 [(.sc (.I (nxtF b (pre))))])]) (fun pre=>[]) (by kernel_rfl) (by kernel_rfl) (by omega) (M:=(dsts b.ops).length) (Nat.le_refl _) (fun pre id D h=>PX.shape_mp (by kernel_rfl) h) (fun pre id D h=>(by cases h)) (fun x=>⟨(a.tmps.setIfInBounds 25 (.I x)).setIfInBounds 7 (.I x),[]⟩) ?asg (fun x=>[(.e 7 (.J x)),(.e 2 (.ptr 1 0)),(.e 3 (.ptr 2 0)),(.e 4 (.ptr 3 0)),(.e 5 (.ptr 4 0)),(.e 6 (.ptr 5 0))]) ?rs ?body ?done ?stop
 case asg=>exact fun l x W K hK=>PX.asg_region (by simp [hNt1]) hK
 case rs=>exact fun x σ' Z' W q=>PX.rs_asg q (by decide) (by kernel_rfl) (.sc _ rfl)
 case stop=>exact fun D pre W _ _ hp=>hp.elim
 case body =>
  rintro l pre x E w hpre hpn hE hS
  replace hS:PX.Sat E 113 [(.e 7 (.J x)),(.e 2 (.ptr 1 0)),(.e 3 (.ptr 2 0)),(.e 4 (.ptr 3 0)),(.e 5 (.ptr 4 0)),(.e 6 (.ptr 5 0))] [(1,.box 62 (encB b)),(2,.box 62 (encB u)),(3,.box 62 [(.J 0),(.sc (.slice none 0 0)),(.J 0),(.J 0),(.J 0),(.sc (.slice none 0 0)),(.J 0),(.sc (.slice none 0 0)),(.J 0),(.sc (.slice none 0 0))]),(4,.box 4 [(.sc (.bool false))]),(5,.box 3 [(.sc (.I (nxtF b (pre))))])] 7 _ w:=hS
  refine wpIn_block ?_
  refine PX.G0w [(.e 26 (.sc (.I (nxtF b (pre))))),(.e 27 (.J x)),(.e 28 (.sc (.I (IntKind.i64.wrap (x+1))))),(.e 29 (.sc (.I (if (IntKind.i64.wrap (x+1)) > (nxtF b (pre)) then (IntKind.i64.wrap (x+1)) else (nxtF b (pre))))))] [(5,.box 3 [(.sc (.I (if (IntKind.i64.wrap (x+1)) > (nxtF b (pre)) then (IntKind.i64.wrap (x+1)) else (nxtF b (pre)))))])] 7 [] [] [.au,.au,.au,.au,.au] [2,3,4,5,6,7,26,27,28,29] [1,2,3,4,5] hS hE trivial fun a w hS=>?_
  replace hS:=PX.recell (id:=5) (j:=0) (.sc (.I (nxtF b (pre++[x])))) hS rfl rfl rfl (fun _ _ _ _ h=>(show PX.PV.sc (.I (if (IntKind.i64.wrap (x+1)) > (nxtF b (pre)) then (IntKind.i64.wrap (x+1)) else (nxtF b (pre))))=.sc (.I (nxtF b (pre++[x]))) from by rw [nxtF_snoc]) ▸ h)
  replace hS:=PX.sl [] hS
  exact And.intro trivial (PX.Sat.with0 (PX.canon [] [] [(1,.box 62 (encB b)),(2,.box 62 (encB u)),(3,.box 62 [(.J 0),(.sc (.slice none 0 0)),(.J 0),(.J 0),(.J 0),(.sc (.slice none 0 0)),(.J 0),(.sc (.slice none 0 0)),(.J 0),(.sc (.slice none 0 0))]),(4,.box 4 [(.sc (.bool false))]),(5,.box 3 [(.sc (.I (nxtF b (pre++[x]))))])] 7 hS hE (by kernel_rfl) (by kernel_rfl) (by kernel_rfl)))
 case done =>
  rintro D1 w E hD1 hpn1 hN1 hE hS hd1 hw1
  replace hS:PX.Sat E 113 [(.e 2 (.ptr 1 0)),(.e 3 (.ptr 2 0)),(.e 4 (.ptr 3 0)),(.e 5 (.ptr 4 0)),(.e 6 (.ptr 5 0))] [(1,.box 62 (encB b)),(2,.box 62 (encB u)),(3,.box 62 [(.J 0),(.sc (.slice none 0 0)),(.J 0),(.J 0),(.J 0),(.sc (.slice none 0 0)),(.J 0),(.sc (.slice none 0 0)),(.J 0),(.sc (.slice none 0 0))]),(4,.box 4 [(.sc (.bool false))]),(5,.box 3 [(.sc (.I (nxtF b (dsts b.ops))))])] 7 _ w:=hS
  clear hsz1
  refine hK1 _ _ ?_
  refine PX.Gw [(.e 8 (.ptr 8 0))] [(7,.mp ([])),(8,.box 139 [(.map 7)])] 9 [] [] [.au,.au,.au] [2,3,4,5,6,8] [1,2,3,4,5,7,8] hS hE trivial fun a w hS=>?_
  refine wpIn_seq_k fun K2 hK2=>?_
  refine PX.Gw [(.e 35 (.imm 1 (b.term.args0.map encI))),(.e 36 (.sc (.I (b.term.args0.length:Int)))),(.e 37 (.J 0))] [] 9 [.q ((.sc (.I (((b.term.args0.map encI).length:Nat):Int)):PX.PV)=(.sc (.I (b.term.args0.length:Int))))] [] [.au,.au,.au,.au,.au,.nm (.sc (.I (b.term.args0.length:Int))),.au] [2,3,4,5,6,8,35,36,37] [1,2,3,4,5,7,8] hS hE ⟨PX.nm_len (by simp),trivial⟩ fun a w hS=>?_
  refine wpIn_block ?_
  rw [show (PX.PO.mp [])=.mp (iv (argsN (b.term.args0.take (0)))) from rfl] at hS
  refine PX.loop_w (fun m3 a' w'=>∃ k:Nat,m3=b.term.args0.length-k∧k≤b.term.args0.length∧True∧PX.Sat E 113 [(.e 2 (.ptr 1 0)),(.e 3 (.ptr 2 0)),(.e 4 (.ptr 3 0)),(.e 5 (.ptr 4 0)),(.e 6 (.ptr 5 0)),(.e 8 (.ptr 8 0)),(.e 35 (.imm 1 (b.term.args0.map encI))),(.e 36 (.sc (.I (b.term.args0.length:Int)))),(.e 37 (.sc (.I (k:Int))))] [(1,.box 62 (encB b)),(2,.box 62 (encB u)),(3,.box 62 [(.J 0),(.sc (.slice none 0 0)),(.J 0),(.J 0),(.J 0),(.sc (.slice none 0 0)),(.J 0),(.sc (.slice none 0 0)),(.J 0),(.sc (.slice none 0 0))]),(4,.box 4 [(.sc (.bool false))]),(5,.box 3 [(.sc (.I (nxtF b (dsts b.ops))))]),(7,.mp (iv (argsN (b.term.args0.take (k))))),(8,.box 139 [(.map 7)])] 9 a' w') (b.term.args0.length-0) ⟨0,rfl,Nat.zero_le _,trivial,(PX.canon [] _ _ 9 hS hE (by kernel_rfl) (by kernel_rfl) (by kernel_rfl))⟩ ?_
  clear hS; rintro m3 a w ⟨k,hm3,hlek,hIk,hS⟩
  refine PX.Gw [(.e 38 (.sc (.bool (decide ((k:Int)<(b.term.args0.length:Int))))))] [] 9 [] [] [.au] [2,3,4,5,6,8,35,36,37,38] [1,2,3,4,5,7,8] hS hE trivial fun a w hS=>?_
  refine wpIn_seq_k fun K4 hK4=>?_
  refine PX.cond_w (decide ((k:Int)<(b.term.args0.length:Int))) hS (by kernel_rfl) (fun h5=>?_) (fun h5=>?_)
  ·skip
   refine wpIn_skip ?_
   refine hK4 _ _ ?_
   refine wpIn_seq_k fun K6 hK6=>?_
   refine wpIn_block ?_
   have hlty:k<b.term.args0.length:=by simpa using h5
   obtain ⟨y,hy⟩:=get_of_lt hlty
   refine PX.Gw [(.e 9 (.sc (.I (k:Int)))),(.e 10 (.J y))] [] 9 [.q ((k:Int)=(k:Int)),.q ((b.term.args0.map encI)[k]?=some (encI y))] [] [.au,.ix k (encI y),.au,.au,.au] [2,3,4,5,6,8,9,10,35,36,37] [1,2,3,4,5,7,8] hS hE ⟨rfl,PX.map_get hy,trivial⟩ fun a w hS=>?_
   refine PX.G0w [] [(7,.mp (PX.updV (iv (argsN (b.term.args0.take (k)))) (k:Int) (.I y)))] 9 [] [] [.au,.au,.au,.au] [2,3,4,5,6,8,35,36,37] [1,2,3,4,5,7,8] hS hE trivial fun a w hS=>?_
   refine hK6 _ _ ?_
   refine PX.G0w [(.e 37 (.sc (.I ((k+1:Nat):Int))))] [] 9 [.q ((.sc (.I (IntKind.i64.wrap ((k:Int)+1))):PX.PV)=(.sc (.I ((k+1:Nat):Int))))] [] [.nm (.sc (.I ((k+1:Nat):Int))),.au] [2,3,4,5,6,8,35,36,37] [1,2,3,4,5,7,8] hS hE ⟨PX.nm_int (by rw [IntWalk.i64_in _ (by omega)]; omega),trivial⟩ fun a w hS=>?_
   rw [show (PX.updV (iv (argsN (b.term.args0.take (k)))) (k:Int) (.I y))=iv (argsN (b.term.args0.take (k+1))) from argsN_upd hy] at hS
   exact ⟨b.term.args0.length-(k+1),by omega,_,rfl,k+1,rfl,by omega,trivial,(PX.canon [] _ _ 9 hS hE (by kernel_rfl) (by kernel_rfl) (by kernel_rfl))⟩
  ·skip
   refine wpIn_exit ?_
   refine hK2 _ _ ?_
   refine wpIn_seq_k fun K7 hK7=>?_
   have hka:b.term.args0.length≤k:=le_of_dec h5
   rw [List.take_of_length_le hka] at hS
   refine PX.Gw [(.e 48 (.fn 160 [] [(.ptr 9 0)]))] [(9,.box 55 [(.imm 11 (u.ops.map encO))])] 10 [.q (PX.Con Try.prog 134 [(.imm 11 (u.ops.map encO))] [] 9 10 (.fn 160 [] [(.ptr 9 0)]) [(9,some (.box 55 [(.imm 11 (u.ops.map encO))]))])] [] [.au,.au,.cl [] (.fn 160 [] [(.ptr 9 0)]) [(9,some (.box 55 [(.imm 11 (u.ops.map encO))]))] 10] [2,3,4,5,6,8,48] [1,2,3,4,5,7,8,9] hS hE ⟨PX.con_as [(9,1)] [(1,9)] (con_f134 u.ops) (by kernel_rfl) (by kernel_rfl) (by kernel_rfl) (by kernel_rfl) (by kernel_rfl) (by kernel_rfl),trivial⟩ fun a w hS=>?_
   refine wpIn_block ?_
   have hsz2:E.w0.heap.size≤w.heap.size:=by obtain ⟨_,_,q⟩:=hS; exact q.chg.size
   have hNt2:a.tmps.size=113:=by obtain ⟨_,_,q⟩:=hS; exact q.rs.size
   have hD1b:=(hN1.2.2 _ _ _ _ _ _ hS).2 D1 _ hd1
   have hlt1:=(Array.getElem?_eq_some_iff.1 hD1b).1
   refine range_dfd (ops:=u.ops) (n:=5) hS hE.etop (by decide) 9 (by kernel_rfl) (by kernel_rfl) [2,3,4,5,6,8] [1,2,3,4,5,7,8] (by kernel_rfl:PX.keepR _ [2,3,4,5,6,8]=some [(.e 2 (.ptr 1 0)),(.e 3 (.ptr 2 0)),(.e 4 (.ptr 3 0)),(.e 5 (.ptr 4 0)),(.e 6 (.ptr 5 0)),(.e 8 (.ptr 8 0))]) (fun pre=>(numF b pre).2.2=true) (fun pre=>(numF b pre).2.2=false) rfl (fun pre=>[(1,.box 62 (encB b)),(2,.box 62 (encB u)),(3,.box 62 [(.J 0),(.sc (.slice none 0 0)),(.J 0),(.J 0),(.J 0),(.sc (.slice none 0 0)),(.J 0),(.sc (.slice none 0 0)),(.J 0),(.sc (.slice none 0 0))]),(4,.box 4 [(.sc (.bool false))]),(5,.box 3 [(.sc (.I ((numF b (pre)).2.1)))]),(7,.mp (iv (numF b (pre)).1)),(8,.box 139 [(.map 7)])]) (fun pre=>[(3,.box 62 [(.J 0),(.imm 11 ([])),(.J 0),(.J 0),(.J 0),(.imm 1 ([])),(.J 0),(.imm 1 ([])),(.J 0),(.imm 1 ([]))]),(4,.box 4 [(.sc (.bool false))])]) (by kernel_rfl) (by kernel_rfl) (by omega) (M:=(dsts u.ops).length) (Nat.le_refl _) (fun pre id D h=>PX.shape_mp (by kernel_rfl) h) (fun pre id D h=>(noMp_no (H:=[(3,.box 62 [(.J 0),(.imm 11 ([])),(.J 0),(.J 0),(.J 0),(.imm 1 ([])),(.J 0),(.imm 1 ([])),(.J 0),(.imm 1 ([]))]),(4,.box 4 [(.sc (.bool false))])]) (by kernel_rfl) h).elim) (fun x=>⟨(a.tmps.setIfInBounds 49 (.I x)).setIfInBounds 11 (.I x),[]⟩) ?asg (fun x=>[(.e 11 (.J x)),(.e 2 (.ptr 1 0)),(.e 3 (.ptr 2 0)),(.e 4 (.ptr 3 0)),(.e 5 (.ptr 4 0)),(.e 6 (.ptr 5 0)),(.e 8 (.ptr 8 0))]) ?rs ?body ?done ?stop
   case asg=>exact fun l x W K hK=>PX.asg_region (by simp [hNt2]) hK
   case rs=>exact fun x σ' Z' W q=>PX.rs_asg q (by decide) (by kernel_rfl) (.sc _ rfl)
   case body =>
    rintro l pre x E w hpre hpn hE hS
    replace hS:PX.Sat E 113 [(.e 11 (.J x)),(.e 2 (.ptr 1 0)),(.e 3 (.ptr 2 0)),(.e 4 (.ptr 3 0)),(.e 5 (.ptr 4 0)),(.e 6 (.ptr 5 0)),(.e 8 (.ptr 8 0))] [(1,.box 62 (encB b)),(2,.box 62 (encB u)),(3,.box 62 [(.J 0),(.sc (.slice none 0 0)),(.J 0),(.J 0),(.J 0),(.sc (.slice none 0 0)),(.J 0),(.sc (.slice none 0 0)),(.J 0),(.sc (.slice none 0 0))]),(4,.box 4 [(.sc (.bool false))]),(5,.box 3 [(.sc (.I ((numF b (pre)).2.1)))]),(7,.mp (iv (numF b (pre)).1)),(8,.box 139 [(.map 7)])] 10 _ w:=hS
    refine wpIn_block ?_
    refine wpIn_seq_k fun K8 hK8=>?_
    refine PX.Gw [(.e 50 (.sc (.I ((numF b (pre)).2.1)))),(.e 51 (.sc (.bool (decide (9999<((numF b (pre)).2.1))))))] [] 10 [] [] [.au,.au] [2,3,4,5,6,8,11,50,51] [1,2,3,4,5,7,8] hS hE trivial fun a w hS=>?_
    refine PX.cond_w (decide (9999<((numF b (pre)).2.1))) hS (by kernel_rfl) (fun h9=>?_) (fun h9=>?_)
    ·skip
     refine PX.Gw [] [(3,.box 62 [(.J 0),(.sc (.slice none 0 0)),(.J 0),(.J 0),(.J 0),(.sc (.slice none 0 0)),(.J 0),(.sc (.slice none 0 0)),(.J 0),(.sc (.slice none 0 0))]),(4,.box 4 [(.sc (.bool false))])] 10 [] [] [.au,.au,.au] [2,3,4,5,6,8,11] [1,2,3,4,5,7,8] hS hE trivial fun a w hS=>?_
     refine wpIn_ret ?_
     replace hS:=PX.recell (id:=3) (j:=1) (.imm 11 []) hS rfl rfl rfl (PX.nil_imm 11)
     replace hS:=PX.recell (id:=3) (j:=5) (.imm 1 []) hS rfl rfl rfl (PX.nil_imm 1)
     replace hS:=PX.recell (id:=3) (j:=7) (.imm 1 []) hS rfl rfl rfl (PX.nil_imm 1)
     replace hS:=PX.recell (id:=3) (j:=9) (.imm 1 []) hS rfl rfl rfl (PX.nil_imm 1)
     replace hS:=PX.sl [] hS
     exact And.intro (by show (numF b (pre++[x])).2.2=false; rw [numF_snoc]; simp only [numP]; rw [h9]; simp) (PX.Sat.with0 (PX.canon [] [] [(3,.box 62 [(.J 0),(.imm 11 ([])),(.J 0),(.J 0),(.J 0),(.imm 1 ([])),(.J 0),(.imm 1 ([])),(.J 0),(.imm 1 ([]))]),(4,.box 4 [(.sc (.bool false))])] 10 hS hE (by kernel_rfl) (by kernel_rfl) (by kernel_rfl)))
    ·skip
     refine wpIn_skip ?_
     refine hK8 _ _ ?_
     refine PX.Gw [(.e 53 (.map 7)),(.e 54 (.J x)),(.e 55 (.sc (.I ((numF b (pre)).2.1))))] [(7,.mp (PX.updV (iv (numF b (pre)).1) x (.I ((numF b (pre)).2.1))))] 10 [] [] [.au,.au,.au,.au] [2,3,4,5,6,8,11,50,51,53,54,55] [1,2,3,4,5,7,8] hS hE trivial fun a w hS=>?_
     refine PX.G0w [(.e 56 (.sc (.I ((numF b (pre)).2.1)))),(.e 57 (.sc (.I (IntKind.i64.wrap (((numF b (pre)).2.1)+1)))))] [(5,.box 3 [(.sc (.I (IntKind.i64.wrap (((numF b (pre)).2.1)+1))))])] 10 [] [] [.au,.au,.au] [2,3,4,5,6,8,11,50,51,53,54,55,56,57] [1,2,3,4,5,7,8] hS hE trivial fun a w hS=>?_
     replace hS:=PX.recell (id:=5) (j:=0) (.sc (.I ((numF b (pre++[x])).2.1))) hS rfl rfl rfl (fun _ _ _ _ h=>(show PX.PV.sc (.I (IntKind.i64.wrap (((numF b (pre)).2.1)+1)))=.sc (.I ((numF b (pre++[x])).2.1)) from by rw [numF_snoc]; rfl) ▸ h)
     rw [show (PX.updV (iv (numF b (pre)).1) x (.I ((numF b (pre)).2.1)))=iv (numF b (pre++[x])).1 from by rw [upd_iv,numF_snoc] <;> rfl] at hS
     replace hS:=PX.sl [] hS
     exact And.intro (by show (numF b (pre++[x])).2.2=true; rw [numF_snoc]; simp only [numP]; rw [show (numF b pre).2.2=true from hpn,h9]; rfl) (PX.Sat.with0 (PX.canon [] [] [(1,.box 62 (encB b)),(2,.box 62 (encB u)),(3,.box 62 [(.J 0),(.sc (.slice none 0 0)),(.J 0),(.J 0),(.J 0),(.sc (.slice none 0 0)),(.J 0),(.sc (.slice none 0 0)),(.J 0),(.sc (.slice none 0 0))]),(4,.box 4 [(.sc (.bool false))]),(5,.box 3 [(.sc (.I ((numF b (pre++[x])).2.1)))]),(7,.mp (iv (numF b (pre++[x])).1)),(8,.box 139 [(.map 7)])] 10 hS hE (by kernel_rfl) (by kernel_rfl) (by kernel_rfl)))
   case stop =>
    rintro D2 pre W hD2 hpre hpx hS hd2 hw2
    replace hS:PX.Sat E 113 [(.e 2 (.ptr 1 0)),(.e 3 (.ptr 2 0)),(.e 4 (.ptr 3 0)),(.e 5 (.ptr 4 0)),(.e 6 (.ptr 5 0)),(.e 8 (.ptr 8 0))] [(3,.box 62 [(.J 0),(.imm 11 ([])),(.J 0),(.J 0),(.J 0),(.imm 1 ([])),(.J 0),(.imm 1 ([])),(.J 0),(.imm 1 ([]))]),(4,.box 4 [(.sc (.bool false))])] 10 _ W:=hS
    refine wpIn_ret ?_
    have hff:=numF_pre hpre hpx
    have hS0:=(hN1.2.2 _ _ _ _ _ _ hS).1
    have hd1f:=hw2 _ _ hD1b
    have hd2f:=hd2
    rw [show PX.PV.tup [.agg (encB (jQ b u)),.sc (.bool (okQ b u))]=((.tup [.agg (encB zeroB),.sc (.bool false)]):PX.PV) from by unfold jQ okQ; rw [hff] <;> rfl]
    exact PX.ret_w (a:=a) [D2,D1] hS0 hE0 (by simp only [List.nodup_cons,List.mem_singleton,List.not_mem_nil,not_false_iff,List.nodup_nil,and_true]; omega) (fun D hD=>by
     simp only [List.mem_cons,List.not_mem_nil,or_false] at hD
     rcases hD with rfl | rfl
     ·exact ⟨by omega,hd2f⟩
     ·exact ⟨by omega,hd1f⟩) (by kernel_rfl) (by kernel_rfl) (by kernel_rfl) (by kernel_rfl)
   case done =>
    rintro D2 w E hD2 hpn2 hN2 hE hS hd2 hw2
    replace hS:PX.Sat E 113 [(.e 2 (.ptr 1 0)),(.e 3 (.ptr 2 0)),(.e 4 (.ptr 3 0)),(.e 5 (.ptr 4 0)),(.e 6 (.ptr 5 0)),(.e 8 (.ptr 8 0))] [(1,.box 62 (encB b)),(2,.box 62 (encB u)),(3,.box 62 [(.J 0),(.sc (.slice none 0 0)),(.J 0),(.J 0),(.J 0),(.sc (.slice none 0 0)),(.J 0),(.sc (.slice none 0 0)),(.J 0),(.sc (.slice none 0 0))]),(4,.box 4 [(.sc (.bool false))]),(5,.box 3 [(.sc (.I ((numF b (dsts u.ops)).2.1)))]),(7,.mp (iv (numF b (dsts u.ops)).1)),(8,.box 139 [(.map 7)])] 10 _ w:=hS
    skip
    refine hK7 _ _ ?_
    refine PX.Gw [(.e 12 (.fn 135 [] [(.ptr 8 0)]))] [] 10 [] [] [.au,.au] [2,3,4,5,12] [1,2,3,4,7,8] hS hE trivial fun a w hS=>?_
    refine PX.Gw [(.e 13 (.ptr 14 0))] [(10,.row 74 11 true (b.ops.map encO)),(11,.row 3 1 true (b.term.args.map encI)),(12,.row 3 1 true (b.term.args0.map encI)),(13,.row 3 1 true (b.term.args1.map encI)),(14,.box 62 [(.J b.params),(.own 10 11 b.ops.length),(.J b.term.kind),(.J b.term.a),(.J b.term.n),(.own 11 1 b.term.args.length),(.J b.term.b0),(.own 12 1 b.term.args0.length),(.J b.term.b1),(.own 13 1 b.term.args1.length)])] 15 [.q (PX.Con Try.prog 98 [(.agg (encB b))] [] 10 14 (.agg [(.J b.params),(.own 10 11 b.ops.length),(.J b.term.kind),(.J b.term.a),(.J b.term.n),(.own 11 1 b.term.args.length),(.J b.term.b0),(.own 12 1 b.term.args0.length),(.J b.term.b1),(.own 13 1 b.term.args1.length)]) [(10,some (.row 74 11 true (b.ops.map encO))),(11,some (.row 3 1 true (b.term.args.map encI))),(12,some (.row 3 1 true (b.term.args0.map encI))),(13,some (.row 3 1 true (b.term.args1.map encI)))])] [] [.au,.cl [] (.agg [(.J b.params),(.own 10 11 b.ops.length),(.J b.term.kind),(.J b.term.a),(.J b.term.n),(.own 11 1 b.term.args.length),(.J b.term.b0),(.own 12 1 b.term.args0.length),(.J b.term.b1),(.own 13 1 b.term.args1.length)]) [(10,some (.row 74 11 true (b.ops.map encO))),(11,some (.row 3 1 true (b.term.args.map encI))),(12,some (.row 3 1 true (b.term.args0.map encI))),(13,some (.row 3 1 true (b.term.args1.map encI)))] 14,.au,.au] [3,4,5,12,13] [2,3,4,7,8,10,11,12,13,14] hS hE ⟨PX.con_as [(10,1),(11,2),(12,3),(13,4)] [(1,10),(2,11),(3,12),(4,13)] (con_f98 b ib (by omega) (by omega) (by omega) (by omega)) (by kernel_rfl) (by kernel_rfl) (by kernel_rfl) (by kernel_rfl) (by kernel_rfl) (by kernel_rfl),trivial⟩ fun a w hS=>?_
    refine wpIn_seq_k fun K10 hK10=>?_
    refine PX.Gw [(.e 62 (.imm 11 (u.ops.map encO))),(.e 63 (.sc (.I (u.ops.length:Int)))),(.e 64 (.J 0))] [] 15 [.q ((.sc (.I (((u.ops.map encO).length:Nat):Int)):PX.PV)=(.sc (.I (u.ops.length:Int))))] [] [.au,.au,.nm (.sc (.I (u.ops.length:Int))),.au] [3,4,5,12,13,62,63,64] [2,3,4,7,8,10,11,12,13,14] hS hE ⟨PX.nm_len (by simp),trivial⟩ fun a w hS=>?_
    refine wpIn_block ?_
    rw [show b.ops.map encO=(b.ops++(u.ops.take (0)).map (renP (numF b (dsts u.ops)).1)).map encO from by simp] at hS
    replace hS:=PX.recell (id:=14) (j:=1) (.own 10 11 (((b.ops++(u.ops.take (0)).map (renP (numF b (dsts u.ops)).1)).map encO).length)) hS rfl rfl rfl (fun _ _ _ _ h=>(show PX.PV.own 10 11 (b.ops.length)=.own 10 11 (((b.ops++(u.ops.take (0)).map (renP (numF b (dsts u.ops)).1)).map encO).length) from by congr 1; simp) ▸ h)
    refine PX.loop_w (fun m11 a' w'=>∃ q:Nat,m11=u.ops.length-q∧q≤u.ops.length∧True∧PX.Sat E 113 [(.e 3 (.ptr 2 0)),(.e 4 (.ptr 3 0)),(.e 5 (.ptr 4 0)),(.e 12 (.fn 135 [] [(.ptr 8 0)])),(.e 13 (.ptr 14 0)),(.e 62 (.imm 11 (u.ops.map encO))),(.e 63 (.sc (.I (u.ops.length:Int)))),(.e 64 (.sc (.I (q:Int))))] [(2,.box 62 (encB u)),(3,.box 62 [(.J 0),(.sc (.slice none 0 0)),(.J 0),(.J 0),(.J 0),(.sc (.slice none 0 0)),(.J 0),(.sc (.slice none 0 0)),(.J 0),(.sc (.slice none 0 0))]),(4,.box 4 [(.sc (.bool false))]),(7,.mp (iv (numF b (dsts u.ops)).1)),(8,.box 139 [(.map 7)]),(10,.row 74 11 true ((b.ops++(u.ops.take (q)).map (renP (numF b (dsts u.ops)).1)).map encO)),(11,.row 3 1 true (b.term.args.map encI)),(12,.row 3 1 true (b.term.args0.map encI)),(13,.row 3 1 true (b.term.args1.map encI)),(14,.box 62 [(.J b.params),(.own 10 11 (((b.ops++(u.ops.take (q)).map (renP (numF b (dsts u.ops)).1)).map encO).length)),(.J b.term.kind),(.J b.term.a),(.J b.term.n),(.own 11 1 b.term.args.length),(.J b.term.b0),(.own 12 1 b.term.args0.length),(.J b.term.b1),(.own 13 1 b.term.args1.length)])] 15 a' w') (u.ops.length-0) ⟨0,rfl,Nat.zero_le _,trivial,(PX.canon [] _ _ 15 hS hE (by kernel_rfl) (by kernel_rfl) (by kernel_rfl))⟩ ?_
    clear hS; rintro m11 a w ⟨q,hm11,hleq,hIq,hS⟩
    refine PX.Gw [(.e 65 (.sc (.bool (decide ((q:Int)<(u.ops.length:Int))))))] [] 15 [] [] [.au] [3,4,5,12,13,62,63,64,65] [2,3,4,7,8,10,11,12,13,14] hS hE trivial fun a w hS=>?_
    refine wpIn_seq_k fun K12 hK12=>?_
    refine PX.cond_w (decide ((q:Int)<(u.ops.length:Int))) hS (by kernel_rfl) (fun h13=>?_) (fun h13=>?_)
    ·skip
     refine wpIn_skip ?_
     refine hK12 _ _ ?_
     refine wpIn_seq_k fun K14 hK14=>?_
     refine wpIn_block ?_
     have hlty:q<u.ops.length:=by simpa using h13
     obtain ⟨y,hy⟩:=get_of_lt hlty
     refine PX.Gw [(.e 15 (.ptr 15 0))] [(15,.box 74 (encO y))] 16 [.q ((q:Int)=(q:Int)),.q ((u.ops.map encO)[q]?=some (encO y))] [] [.ix q (encO y),.au,.au,.au] [3,4,5,12,13,15,62,63,64] [2,3,4,7,8,10,11,12,13,14,15] hS hE ⟨rfl,PX.map_get hy,trivial⟩ fun a w hS=>?_
     refine PX.D0w [] [(14,.box 62 [(.J b.params),(.own 17 11 (((b.ops++(u.ops.take (q)).map (renP (numF b (dsts u.ops)).1)).map encO:List (List PX.PV)).length+1)),(.J b.term.kind),(.J b.term.a),(.J b.term.n),(.own 11 1 b.term.args.length),(.J b.term.b0),(.own 12 1 b.term.args0.length),(.J b.term.b1),(.own 13 1 b.term.args1.length)]),(17,.row 74 11 true ((b.ops++(u.ops.take (q)).map (renP (numF b (dsts u.ops)).1)).map encO++[[(.sc (.I ((renP (numF b (dsts u.ops)).1 y).kind))),(.sc (.I ((renP (numF b (dsts u.ops)).1 y).dst))),(.sc (.I ((renP (numF b (dsts u.ops)).1 y).a))),(.sc (.I ((renP (numF b (dsts u.ops)).1 y).b))),(.sc (.I ((renP (numF b (dsts u.ops)).1 y).n))),(.sc (.I ((renP (numF b (dsts u.ops)).1 y).ctx))),(.sc (.I ((renP (numF b (dsts u.ops)).1 y).var))),(.sc (.I ((renP (numF b (dsts u.ops)).1 y).piece))),(.sc (.I ((renP (numF b (dsts u.ops)).1 y).sk))),(.sc (.I ((renP (numF b (dsts u.ops)).1 y).sv))),(.sc (.I ((renP (numF b (dsts u.ops)).1 y).sa)))]]))] 18 [.q (PX.Con Try.prog 136 [(.agg (encO y)),(.fn 135 [] [(.ptr 8 0)])] [(8,.box 139 [(.map 7)]),(7,.mp (iv (numF b (dsts u.ops)).1))] 16 16 (.agg [(.sc (.I ((renP (numF b (dsts u.ops)).1 y).kind))),(.sc (.I ((renP (numF b (dsts u.ops)).1 y).dst))),(.sc (.I ((renP (numF b (dsts u.ops)).1 y).a))),(.sc (.I ((renP (numF b (dsts u.ops)).1 y).b))),(.sc (.I ((renP (numF b (dsts u.ops)).1 y).n))),(.sc (.I ((renP (numF b (dsts u.ops)).1 y).ctx))),(.sc (.I ((renP (numF b (dsts u.ops)).1 y).var))),(.sc (.I ((renP (numF b (dsts u.ops)).1 y).piece))),(.sc (.I ((renP (numF b (dsts u.ops)).1 y).sk))),(.sc (.I ((renP (numF b (dsts u.ops)).1 y).sv))),(.sc (.I ((renP (numF b (dsts u.ops)).1 y).sa)))]) [(8,some (.box 139 [.map 7])),(7,some (.mp (iv (numF b (dsts u.ops)).1)))]),.b (lenIs (((b.ops++(u.ops.take (q)).map (renP (numF b (dsts u.ops)).1)).map encO).length) ((b.ops++(u.ops.take (q)).map (renP (numF b (dsts u.ops)).1)).map encO)),.b (lenIs 1 ([[(.sc (.I ((renP (numF b (dsts u.ops)).1 y).kind))),(.sc (.I ((renP (numF b (dsts u.ops)).1 y).dst))),(.sc (.I ((renP (numF b (dsts u.ops)).1 y).a))),(.sc (.I ((renP (numF b (dsts u.ops)).1 y).b))),(.sc (.I ((renP (numF b (dsts u.ops)).1 y).n))),(.sc (.I ((renP (numF b (dsts u.ops)).1 y).ctx))),(.sc (.I ((renP (numF b (dsts u.ops)).1 y).var))),(.sc (.I ((renP (numF b (dsts u.ops)).1 y).piece))),(.sc (.I ((renP (numF b (dsts u.ops)).1 y).sk))),(.sc (.I ((renP (numF b (dsts u.ops)).1 y).sv))),(.sc (.I ((renP (numF b (dsts u.ops)).1 y).sa)))]])),.b (Nat.ble (((b.ops++(u.ops.take (q)).map (renP (numF b (dsts u.ops)).1)).map encO:List (List PX.PV)).length+1) 1000000000)] [] [.au,.au,.au,.au,.cl [8,7] (.agg [(.sc (.I ((renP (numF b (dsts u.ops)).1 y).kind))),(.sc (.I ((renP (numF b (dsts u.ops)).1 y).dst))),(.sc (.I ((renP (numF b (dsts u.ops)).1 y).a))),(.sc (.I ((renP (numF b (dsts u.ops)).1 y).b))),(.sc (.I ((renP (numF b (dsts u.ops)).1 y).n))),(.sc (.I ((renP (numF b (dsts u.ops)).1 y).ctx))),(.sc (.I ((renP (numF b (dsts u.ops)).1 y).var))),(.sc (.I ((renP (numF b (dsts u.ops)).1 y).piece))),(.sc (.I ((renP (numF b (dsts u.ops)).1 y).sk))),(.sc (.I ((renP (numF b (dsts u.ops)).1 y).sv))),(.sc (.I ((renP (numF b (dsts u.ops)).1 y).sa)))]) [(8,some (.box 139 [.map 7])),(7,some (.mp (iv (numF b (dsts u.ops)).1)))] 16,.au,.au,.au,.au] [3,4,5,12,13,62,63,64] [2,3,4,7,8,11,12,13,14,17] hS mixed hE ⟨PX.con_as [(8,1),(7,2)] [(1,8),(2,7)] (con_f136 (numF b (dsts u.ops)).1 y) (by kernel_rfl) (by kernel_rfl) (by kernel_rfl) (by kernel_rfl) (by kernel_rfl) (by kernel_rfl),by simp [PX.lenIs],rfl,by simp; omega,trivial⟩ fun a w hS=>?_
     refine hK14 _ _ ?_
     refine PX.G0w [(.e 64 (.sc (.I ((q+1:Nat):Int))))] [] 18 [.q ((.sc (.I (IntKind.i64.wrap ((q:Int)+1))):PX.PV)=(.sc (.I ((q+1:Nat):Int))))] [] [.nm (.sc (.I ((q+1:Nat):Int))),.au] [3,4,5,12,13,62,63,64] [2,3,4,7,8,11,12,13,14,17] hS hE ⟨PX.nm_int (by rw [IntWalk.i64_in _ (by omega)]; omega),trivial⟩ fun a w hS=>?_
     have e1:((b.ops++(u.ops.take (q)).map (renP (numF b (dsts u.ops)).1)).map encO++[[(.sc (.I ((renP (numF b (dsts u.ops)).1 y).kind))),(.sc (.I ((renP (numF b (dsts u.ops)).1 y).dst))),(.sc (.I ((renP (numF b (dsts u.ops)).1 y).a))),(.sc (.I ((renP (numF b (dsts u.ops)).1 y).b))),(.sc (.I ((renP (numF b (dsts u.ops)).1 y).n))),(.sc (.I ((renP (numF b (dsts u.ops)).1 y).ctx))),(.sc (.I ((renP (numF b (dsts u.ops)).1 y).var))),(.sc (.I ((renP (numF b (dsts u.ops)).1 y).piece))),(.sc (.I ((renP (numF b (dsts u.ops)).1 y).sk))),(.sc (.I ((renP (numF b (dsts u.ops)).1 y).sv))),(.sc (.I ((renP (numF b (dsts u.ops)).1 y).sa)))]])=(b.ops++(u.ops.take (q+1)).map (renP (numF b (dsts u.ops)).1)).map encO:=by rw [List.take_add_one,hy]; simp [encO]
     have e2:((b.ops++(u.ops.take (q)).map (renP (numF b (dsts u.ops)).1)).map encO:List (List PX.PV)).length+1=((b.ops++(u.ops.take (q+1)).map (renP (numF b (dsts u.ops)).1)).map encO).length:=by simp; omega
     rw [e2,e1] at hS
     exact ⟨u.ops.length-(q+1),by omega,_,rfl,q+1,rfl,by omega,trivial,(PX.canon [(10,17)] _ _ 15 hS hE (by kernel_rfl) (by kernel_rfl) (by kernel_rfl))⟩
    ·skip
     refine wpIn_exit ?_
     refine hK10 _ _ ?_
     have hkq:u.ops.length≤q:=le_of_dec h13
     rw [List.take_of_length_le hkq] at hS
     refine PX.Gw [] [(14,.box 62 [(.J b.params),(.own 10 11 (((b.ops++u.ops.map (renP (numF b (dsts u.ops)).1)).map encO).length)),(.J u.term.kind),(.J u.term.a),(.J u.term.n),(.own 16 1 u.term.args.length),(.J u.term.b0),(.own 17 1 u.term.args0.length),(.J u.term.b1),(.own 18 1 u.term.args1.length)]),(16,.row 3 1 true (u.term.args.map encI)),(17,.row 3 1 true (u.term.args0.map encI)),(18,.row 3 1 true (u.term.args1.map encI))] 19 [.q (PX.Con Try.prog 98 [(.agg (encB u))] [] 15 19 (.agg [(.J u.params),(.own 15 11 u.ops.length),(.J u.term.kind),(.J u.term.a),(.J u.term.n),(.own 16 1 u.term.args.length),(.J u.term.b0),(.own 17 1 u.term.args0.length),(.J u.term.b1),(.own 18 1 u.term.args1.length)]) [(15,some (.row 74 11 true (u.ops.map encO))),(16,some (.row 3 1 true (u.term.args.map encI))),(17,some (.row 3 1 true (u.term.args0.map encI))),(18,some (.row 3 1 true (u.term.args1.map encI)))])] [] [.au,.cl [] (.agg [(.J u.params),(.own 15 11 u.ops.length),(.J u.term.kind),(.J u.term.a),(.J u.term.n),(.own 16 1 u.term.args.length),(.J u.term.b0),(.own 17 1 u.term.args0.length),(.J u.term.b1),(.own 18 1 u.term.args1.length)]) [(15,some (.row 74 11 true (u.ops.map encO))),(16,some (.row 3 1 true (u.term.args.map encI))),(17,some (.row 3 1 true (u.term.args0.map encI))),(18,some (.row 3 1 true (u.term.args1.map encI)))] 19,.au,.au,.au] [3,4,5,12,13] [2,3,4,7,8,10,14,16,17,18] hS hE ⟨PX.con_as [(15,1),(16,2),(17,3),(18,4)] [(1,15),(2,16),(3,17),(4,18)] (con_f98 u iu (by omega) (by omega) (by omega) (by omega)) (by kernel_rfl) (by kernel_rfl) (by kernel_rfl) (by kernel_rfl) (by kernel_rfl) (by kernel_rfl),trivial⟩ fun a w hS=>?_
     refine PX.Gw [] [(14,.box 62 [(.J b.params),(.own 10 11 (((b.ops++u.ops.map (renP (numF b (dsts u.ops)).1)).map encO).length)),(.J u.term.kind),(.sc (.I (valD (numF b (dsts u.ops)).1 u.term.a))),(.J u.term.n),(.own 16 1 u.term.args.length),(.J u.term.b0),(.own 17 1 u.term.args0.length),(.J u.term.b1),(.own 18 1 u.term.args1.length)])] 19 [.q (PX.Con Try.prog 135 [(.J u.term.a),(.ptr 8 0)] [(8,.box 139 [(.map 7)]),(7,.mp (iv (numF b (dsts u.ops)).1))] 19 19 (.sc (.I (valD (numF b (dsts u.ops)).1 u.term.a))) [(8,some (.box 139 [.map 7])),(7,some (.mp (iv (numF b (dsts u.ops)).1)))])] [] [.au,.au,.au,.au,.cl [8,7] (.sc (.I (valD (numF b (dsts u.ops)).1 u.term.a))) [(8,some (.box 139 [.map 7])),(7,some (.mp (iv (numF b (dsts u.ops)).1)))] 19,.au,.au,.au] [4,5,12,13] [3,4,7,8,10,14,16,17,18] hS hE ⟨PX.con_as [(8,1),(7,2)] [(1,8),(2,7)] (con_f135 (numF b (dsts u.ops)).1 u.term.a) (by kernel_rfl) (by kernel_rfl) (by kernel_rfl) (by kernel_rfl) (by kernel_rfl) (by kernel_rfl),trivial⟩ fun a w hS=>?_
     refine wpIn_seq_k fun K15 hK15=>?_
     refine PX.Gw [(.e 88 (.J 0))] [] 19 [] [] [.au] [4,5,12,13,88] [3,4,7,8,10,14,16,17,18] hS hE trivial fun a w hS=>?_
     refine wpIn_block ?_
     refine wpIn_loop_rounds 3 ?_
     rw [roundsIn_succ]
     refine PX.Gw [(.e 89 (.sc (.bool true)))] [] 19 [] [] [.au] [4,5,12,13,88,89] [3,4,7,8,10,14,16,17,18] hS hE trivial fun a w hS=>?_
     refine wpIn_seq_k fun K16 hK16=>?_
     refine PX.cond_w true hS (by kernel_rfl) (fun h17=>?_) (fun h17=>nomatch h17)
     refine wpIn_skip ?_
     refine hK16 _ _ ?_
     refine wpIn_seq_k fun K18 hK18=>?_
     refine wpIn_block ?_
     refine PX.Gw [(.e 16 (.J 0))] [] 19 [] [] [.au,.au] [4,5,12,13,16,88] [3,4,7,8,10,14,16,17,18] hS hE trivial fun a w hS=>?_
     refine PX.Gw [(.e 17 (.own 17 1 u.term.args0.length))] [] 19 [] [] [.au,.au,.au,.au,.au,.au,.au] [4,5,12,13,17,88] [3,4,7,8,10,14,16,17,18] hS hE trivial fun a w hS=>?_
     refine PX.Gw [(.e 97 (.own 17 1 u.term.args0.length)),(.e 98 (.sc (.I (u.term.args0.length:Int)))),(.e 99 (.J 0))] [] 19 [] [] [.au,.au,.au] [4,5,12,13,17,88,97,98,99] [3,4,7,8,10,14,16,17,18] hS hE trivial fun a w hS=>?_
     refine wpIn_block ?_
     rw [show u.term.args0.map encI=((u.term.args0.take (0)).map (valD (numF b (dsts u.ops)).1)++u.term.args0.drop (0)).map encI from by simp] at hS
     refine PX.loop_w (fun m19 a' w'=>∃ i:Nat,m19=u.term.args0.length-i∧i≤u.term.args0.length∧True∧PX.Sat E 113 [(.e 4 (.ptr 3 0)),(.e 5 (.ptr 4 0)),(.e 12 (.fn 135 [] [(.ptr 8 0)])),(.e 13 (.ptr 14 0)),(.e 17 (.own 17 1 u.term.args0.length)),(.e 88 (.J 0)),(.e 97 (.own 17 1 u.term.args0.length)),(.e 98 (.sc (.I (u.term.args0.length:Int)))),(.e 99 (.sc (.I (i:Int))))] [(3,.box 62 [(.J 0),(.sc (.slice none 0 0)),(.J 0),(.J 0),(.J 0),(.sc (.slice none 0 0)),(.J 0),(.sc (.slice none 0 0)),(.J 0),(.sc (.slice none 0 0))]),(4,.box 4 [(.sc (.bool false))]),(7,.mp (iv (numF b (dsts u.ops)).1)),(8,.box 139 [(.map 7)]),(10,.row 74 11 true ((b.ops++u.ops.map (renP (numF b (dsts u.ops)).1)).map encO)),(14,.box 62 [(.J b.params),(.own 10 11 (((b.ops++u.ops.map (renP (numF b (dsts u.ops)).1)).map encO).length)),(.J u.term.kind),(.sc (.I (valD (numF b (dsts u.ops)).1 u.term.a))),(.J u.term.n),(.own 16 1 u.term.args.length),(.J u.term.b0),(.own 17 1 u.term.args0.length),(.J u.term.b1),(.own 18 1 u.term.args1.length)]),(16,.row 3 1 true (u.term.args.map encI)),(17,.row 3 1 true (((u.term.args0.take (i)).map (valD (numF b (dsts u.ops)).1)++u.term.args0.drop (i)).map encI)),(18,.row 3 1 true (u.term.args1.map encI))] 19 a' w') (u.term.args0.length-0) ⟨0,rfl,Nat.zero_le _,trivial,(PX.canon [] _ _ 19 hS hE (by kernel_rfl) (by kernel_rfl) (by kernel_rfl))⟩ ?_
     clear hS; rintro m19 a w ⟨i,hm19,hlei,hIi,hS⟩
     refine PX.Gw [(.e 100 (.sc (.bool (decide ((i:Int)<(u.term.args0.length:Int))))))] [] 19 [] [] [.au] [4,5,12,13,17,88,97,98,99,100] [3,4,7,8,10,14,16,17,18] hS hE trivial fun a w hS=>?_
     refine wpIn_seq_k fun K20 hK20=>?_
     refine PX.cond_w (decide ((i:Int)<(u.term.args0.length:Int))) hS (by kernel_rfl) (fun h21=>?_) (fun h21=>?_)
     ·skip
      refine wpIn_skip ?_
      refine hK20 _ _ ?_
      refine wpIn_seq_k fun K22 hK22=>?_
      refine wpIn_block ?_
      have hlt:i<u.term.args0.length:=lt_of_dec h21
      obtain ⟨y,hy⟩:=get_of_lt hlt
      refine PX.Gw [(.e 18 (.sc (.I (i:Int)))),(.e 19 (.J y))] [] 19 [.q ((i:Int)=(i:Int)),.q (i<u.term.args0.length),.q ((((u.term.args0.take (i)).map (valD (numF b (dsts u.ops)).1)++u.term.args0.drop (i)).map encI)[i]?=some (encI y))] [] [.au,.ix i [],.lr (encI y),.au,.au] [4,5,12,13,17,18,19,88,97,98,99] [3,4,7,8,10,14,16,17,18] hS hE ⟨rfl,by omega,renI_get hy,trivial⟩ fun a w hS=>?_
      refine PX.G0w [] [(17,.row 3 1 true ((((u.term.args0.take (i)).map (valD (numF b (dsts u.ops)).1)++u.term.args0.drop (i)).map encI).set i [(.sc (.I (valD (numF b (dsts u.ops)).1 y)))]))] 19 [.q (PX.Con Try.prog 135 [(.J y),(.ptr 8 0)] [(8,.box 139 [(.map 7)]),(7,.mp (iv (numF b (dsts u.ops)).1))] 19 19 (.sc (.I (valD (numF b (dsts u.ops)).1 y))) [(8,some (.box 139 [.map 7])),(7,some (.mp (iv (numF b (dsts u.ops)).1)))]),.q ((i:Int)=(i:Int)),.q (i<u.term.args0.length),.q ((((u.term.args0.take (i)).map (valD (numF b (dsts u.ops)).1)++u.term.args0.drop (i)).map encI)[i]?=some (encI y))] [] [.au,.au,.au,.au,.cl [8,7] (.sc (.I (valD (numF b (dsts u.ops)).1 y))) [(8,some (.box 139 [.map 7])),(7,some (.mp (iv (numF b (dsts u.ops)).1)))] 19,.ix i [],.lr (encI y)] [4,5,12,13,17,88,97,98,99] [3,4,7,8,10,14,16,17,18] hS hE ⟨PX.con_as [(8,1),(7,2)] [(1,8),(2,7)] (con_f135 (numF b (dsts u.ops)).1 y) (by kernel_rfl) (by kernel_rfl) (by kernel_rfl) (by kernel_rfl) (by kernel_rfl) (by kernel_rfl),rfl,by omega,renI_get hy,trivial⟩ fun a w hS=>?_
      refine hK22 _ _ ?_
      refine PX.G0w [(.e 99 (.sc (.I ((i+1:Nat):Int))))] [] 19 [.q ((.sc (.I (IntKind.i64.wrap ((i:Int)+1))):PX.PV)=(.sc (.I ((i+1:Nat):Int))))] [] [.nm (.sc (.I ((i+1:Nat):Int))),.au] [4,5,12,13,17,88,97,98,99] [3,4,7,8,10,14,16,17,18] hS hE ⟨PX.nm_int (by rw [IntWalk.i64_in _ (by omega)]; omega),trivial⟩ fun a w hS=>?_
      rw [show ((((u.term.args0.take (i)).map (valD (numF b (dsts u.ops)).1)++u.term.args0.drop (i)).map encI).set i [(.sc (.I (valD (numF b (dsts u.ops)).1 y)))])=((u.term.args0.take (i+1)).map (valD (numF b (dsts u.ops)).1)++u.term.args0.drop (i+1)).map encI from renI_set hy] at hS
      exact ⟨u.term.args0.length-(i+1),by omega,_,rfl,i+1,rfl,by omega,trivial,(PX.canon [] _ _ 19 hS hE (by kernel_rfl) (by kernel_rfl) (by kernel_rfl))⟩
     ·skip
      refine wpIn_exit ?_
      refine hK18 _ _ ?_
      have hki:u.term.args0.length≤i:=le_of_dec h21
      rw [show ((u.term.args0.take (i)).map (valD (numF b (dsts u.ops)).1)++u.term.args0.drop (i)).map encI=(u.term.args0.map (valD (numF b (dsts u.ops)).1)).map encI from by rw [List.take_of_length_le hki,List.drop_of_length_le hki,List.append_nil]] at hS
      refine PX.G0w [(.e 88 (.J 1))] [] 19 [] [] [.au,.au] [4,5,12,13,88] [3,4,7,8,10,14,16,17,18] hS hE trivial fun a w hS=>?_
      show Code.roundsIn _ _ _ _ _ 2 _ _
      rw [roundsIn_succ]
      refine PX.Gw [(.e 89 (.sc (.bool true)))] [] 19 [] [] [.au] [4,5,12,13,88,89] [3,4,7,8,10,14,16,17,18] hS hE trivial fun a w hS=>?_
      refine wpIn_seq_k fun K23 hK23=>?_
      refine PX.cond_w true hS (by kernel_rfl) (fun h24=>?_) (fun h24=>nomatch h24)
      refine wpIn_skip ?_
      refine hK23 _ _ ?_
      refine wpIn_seq_k fun K25 hK25=>?_
      refine wpIn_block ?_
      refine PX.Gw [(.e 16 (.J 1))] [] 19 [] [] [.au,.au] [4,5,12,13,16,88] [3,4,7,8,10,14,16,17,18] hS hE trivial fun a w hS=>?_
      refine PX.Gw [(.e 17 (.own 18 1 u.term.args1.length))] [] 19 [] [] [.au,.au,.au,.au,.au,.au,.au] [4,5,12,13,17,88] [3,4,7,8,10,14,16,17,18] hS hE trivial fun a w hS=>?_
      refine PX.Gw [(.e 97 (.own 18 1 u.term.args1.length)),(.e 98 (.sc (.I (u.term.args1.length:Int)))),(.e 99 (.J 0))] [] 19 [] [] [.au,.au,.au] [4,5,12,13,17,88,97,98,99] [3,4,7,8,10,14,16,17,18] hS hE trivial fun a w hS=>?_
      refine wpIn_block ?_
      rw [show u.term.args1.map encI=((u.term.args1.take (0)).map (valD (numF b (dsts u.ops)).1)++u.term.args1.drop (0)).map encI from by simp] at hS
      refine PX.loop_w (fun m26 a' w'=>∃ i:Nat,m26=u.term.args1.length-i∧i≤u.term.args1.length∧True∧PX.Sat E 113 [(.e 4 (.ptr 3 0)),(.e 5 (.ptr 4 0)),(.e 12 (.fn 135 [] [(.ptr 8 0)])),(.e 13 (.ptr 14 0)),(.e 17 (.own 18 1 u.term.args1.length)),(.e 88 (.J 1)),(.e 97 (.own 18 1 u.term.args1.length)),(.e 98 (.sc (.I (u.term.args1.length:Int)))),(.e 99 (.sc (.I (i:Int))))] [(3,.box 62 [(.J 0),(.sc (.slice none 0 0)),(.J 0),(.J 0),(.J 0),(.sc (.slice none 0 0)),(.J 0),(.sc (.slice none 0 0)),(.J 0),(.sc (.slice none 0 0))]),(4,.box 4 [(.sc (.bool false))]),(7,.mp (iv (numF b (dsts u.ops)).1)),(8,.box 139 [(.map 7)]),(10,.row 74 11 true ((b.ops++u.ops.map (renP (numF b (dsts u.ops)).1)).map encO)),(14,.box 62 [(.J b.params),(.own 10 11 (((b.ops++u.ops.map (renP (numF b (dsts u.ops)).1)).map encO).length)),(.J u.term.kind),(.sc (.I (valD (numF b (dsts u.ops)).1 u.term.a))),(.J u.term.n),(.own 16 1 u.term.args.length),(.J u.term.b0),(.own 17 1 u.term.args0.length),(.J u.term.b1),(.own 18 1 u.term.args1.length)]),(16,.row 3 1 true (u.term.args.map encI)),(17,.row 3 1 true ((u.term.args0.map (valD (numF b (dsts u.ops)).1)).map encI)),(18,.row 3 1 true (((u.term.args1.take (i)).map (valD (numF b (dsts u.ops)).1)++u.term.args1.drop (i)).map encI))] 19 a' w') (u.term.args1.length-0) ⟨0,rfl,Nat.zero_le _,trivial,(PX.canon [] _ _ 19 hS hE (by kernel_rfl) (by kernel_rfl) (by kernel_rfl))⟩ ?_
      clear hS; rintro m26 a w ⟨i,hm26,hlei,hIi,hS⟩
      refine PX.Gw [(.e 100 (.sc (.bool (decide ((i:Int)<(u.term.args1.length:Int))))))] [] 19 [] [] [.au] [4,5,12,13,17,88,97,98,99,100] [3,4,7,8,10,14,16,17,18] hS hE trivial fun a w hS=>?_
      refine wpIn_seq_k fun K27 hK27=>?_
      refine PX.cond_w (decide ((i:Int)<(u.term.args1.length:Int))) hS (by kernel_rfl) (fun h28=>?_) (fun h28=>?_)
      ·skip
       refine wpIn_skip ?_
       refine hK27 _ _ ?_
       refine wpIn_seq_k fun K29 hK29=>?_
       refine wpIn_block ?_
       have hlt:i<u.term.args1.length:=lt_of_dec h28
       obtain ⟨y,hy⟩:=get_of_lt hlt
       refine PX.Gw [(.e 18 (.sc (.I (i:Int)))),(.e 19 (.J y))] [] 19 [.q ((i:Int)=(i:Int)),.q (i<u.term.args1.length),.q ((((u.term.args1.take (i)).map (valD (numF b (dsts u.ops)).1)++u.term.args1.drop (i)).map encI)[i]?=some (encI y))] [] [.au,.ix i [],.lr (encI y),.au,.au] [4,5,12,13,17,18,19,88,97,98,99] [3,4,7,8,10,14,16,17,18] hS hE ⟨rfl,by omega,renI_get hy,trivial⟩ fun a w hS=>?_
       refine PX.G0w [] [(18,.row 3 1 true ((((u.term.args1.take (i)).map (valD (numF b (dsts u.ops)).1)++u.term.args1.drop (i)).map encI).set i [(.sc (.I (valD (numF b (dsts u.ops)).1 y)))]))] 19 [.q (PX.Con Try.prog 135 [(.J y),(.ptr 8 0)] [(8,.box 139 [(.map 7)]),(7,.mp (iv (numF b (dsts u.ops)).1))] 19 19 (.sc (.I (valD (numF b (dsts u.ops)).1 y))) [(8,some (.box 139 [.map 7])),(7,some (.mp (iv (numF b (dsts u.ops)).1)))]),.q ((i:Int)=(i:Int)),.q (i<u.term.args1.length),.q ((((u.term.args1.take (i)).map (valD (numF b (dsts u.ops)).1)++u.term.args1.drop (i)).map encI)[i]?=some (encI y))] [] [.au,.au,.au,.au,.cl [8,7] (.sc (.I (valD (numF b (dsts u.ops)).1 y))) [(8,some (.box 139 [.map 7])),(7,some (.mp (iv (numF b (dsts u.ops)).1)))] 19,.ix i [],.lr (encI y)] [4,5,12,13,17,88,97,98,99] [3,4,7,8,10,14,16,17,18] hS hE ⟨PX.con_as [(8,1),(7,2)] [(1,8),(2,7)] (con_f135 (numF b (dsts u.ops)).1 y) (by kernel_rfl) (by kernel_rfl) (by kernel_rfl) (by kernel_rfl) (by kernel_rfl) (by kernel_rfl),rfl,by omega,renI_get hy,trivial⟩ fun a w hS=>?_
       refine hK29 _ _ ?_
       refine PX.G0w [(.e 99 (.sc (.I ((i+1:Nat):Int))))] [] 19 [.q ((.sc (.I (IntKind.i64.wrap ((i:Int)+1))):PX.PV)=(.sc (.I ((i+1:Nat):Int))))] [] [.nm (.sc (.I ((i+1:Nat):Int))),.au] [4,5,12,13,17,88,97,98,99] [3,4,7,8,10,14,16,17,18] hS hE ⟨PX.nm_int (by rw [IntWalk.i64_in _ (by omega)]; omega),trivial⟩ fun a w hS=>?_
       rw [show ((((u.term.args1.take (i)).map (valD (numF b (dsts u.ops)).1)++u.term.args1.drop (i)).map encI).set i [(.sc (.I (valD (numF b (dsts u.ops)).1 y)))])=((u.term.args1.take (i+1)).map (valD (numF b (dsts u.ops)).1)++u.term.args1.drop (i+1)).map encI from renI_set hy] at hS
       exact ⟨u.term.args1.length-(i+1),by omega,_,rfl,i+1,rfl,by omega,trivial,(PX.canon [] _ _ 19 hS hE (by kernel_rfl) (by kernel_rfl) (by kernel_rfl))⟩
      ·skip
       refine wpIn_exit ?_
       refine hK25 _ _ ?_
       have hki:u.term.args1.length≤i:=le_of_dec h28
       rw [show ((u.term.args1.take (i)).map (valD (numF b (dsts u.ops)).1)++u.term.args1.drop (i)).map encI=(u.term.args1.map (valD (numF b (dsts u.ops)).1)).map encI from by rw [List.take_of_length_le hki,List.drop_of_length_le hki,List.append_nil]] at hS
       refine PX.G0w [(.e 88 (.J 2))] [] 19 [] [] [.au,.au] [4,5,12,13,88] [3,4,7,8,10,14,16,17,18] hS hE trivial fun a w hS=>?_
       show Code.roundsIn _ _ _ _ _ 1 _ _
       rw [roundsIn_succ]
       refine PX.Gw [(.e 89 (.sc (.bool false)))] [] 19 [] [] [.au] [4,5,12,13,88,89] [3,4,7,8,10,14,16,17,18] hS hE trivial fun a w hS=>?_
       refine wpIn_seq_k fun K30 hK30=>?_
       refine PX.cond_w false hS (by kernel_rfl) (fun h31=>nomatch h31) (fun h31=>?_)
       refine wpIn_exit ?_
       refine hK15 _ _ ?_
       refine PX.Gw [] [(3,.box 62 [(.J b.params),(.own 10 11 (((b.ops++u.ops.map (renP (numF b (dsts u.ops)).1)).map encO).length)),(.J u.term.kind),(.sc (.I (valD (numF b (dsts u.ops)).1 u.term.a))),(.J u.term.n),(.own 16 1 u.term.args.length),(.J u.term.b0),(.own 17 1 u.term.args0.length),(.J u.term.b1),(.own 18 1 u.term.args1.length)]),(4,.box 4 [(.sc (.bool true))])] 19 [] [] [.au,.au,.au] [4,5] [3,4,10,16,17,18] hS hE trivial fun a w hS=>?_
       refine wpIn_ret ?_
       replace hS:=PX.fz 10 [] [(3,.box 62 [(.J b.params),(.imm 11 ((b.ops++u.ops.map (renP (numF b (dsts u.ops)).1)).map encO)),(.J u.term.kind),(.sc (.I (valD (numF b (dsts u.ops)).1 u.term.a))),(.J u.term.n),(.own 16 1 u.term.args.length),(.J u.term.b0),(.own 17 1 u.term.args0.length),(.J u.term.b1),(.own 18 1 u.term.args1.length)])] [4,5] [3,4,16,17,18] [.b (PX.lenIs (((b.ops++u.ops.map (renP (numF b (dsts u.ops)).1)).map encO).length) ((b.ops++u.ops.map (renP (numF b (dsts u.ops)).1)).map encO))] hS ⟨(by simp [PX.lenIs]),trivial⟩
       replace hS:=PX.fz 16 [] [(3,.box 62 [(.J b.params),(.imm 11 ((b.ops++u.ops.map (renP (numF b (dsts u.ops)).1)).map encO)),(.J u.term.kind),(.sc (.I (valD (numF b (dsts u.ops)).1 u.term.a))),(.J u.term.n),(.imm 1 (u.term.args.map encI)),(.J u.term.b0),(.own 17 1 u.term.args0.length),(.J u.term.b1),(.own 18 1 u.term.args1.length)])] [4,5] [3,4,17,18] [.b (PX.lenIs u.term.args.length (u.term.args.map encI))] hS ⟨(by simp [PX.lenIs]),trivial⟩
       replace hS:=PX.fz 17 [] [(3,.box 62 [(.J b.params),(.imm 11 ((b.ops++u.ops.map (renP (numF b (dsts u.ops)).1)).map encO)),(.J u.term.kind),(.sc (.I (valD (numF b (dsts u.ops)).1 u.term.a))),(.J u.term.n),(.imm 1 (u.term.args.map encI)),(.J u.term.b0),(.imm 1 ((u.term.args0.map (valD (numF b (dsts u.ops)).1)).map encI)),(.J u.term.b1),(.own 18 1 u.term.args1.length)])] [4,5] [3,4,18] [.b (PX.lenIs u.term.args0.length ((u.term.args0.map (valD (numF b (dsts u.ops)).1)).map encI))] hS ⟨(by simp [PX.lenIs]),trivial⟩
       replace hS:=PX.fz 18 [] [(3,.box 62 [(.J b.params),(.imm 11 ((b.ops++u.ops.map (renP (numF b (dsts u.ops)).1)).map encO)),(.J u.term.kind),(.sc (.I (valD (numF b (dsts u.ops)).1 u.term.a))),(.J u.term.n),(.imm 1 (u.term.args.map encI)),(.J u.term.b0),(.imm 1 ((u.term.args0.map (valD (numF b (dsts u.ops)).1)).map encI)),(.J u.term.b1),(.imm 1 ((u.term.args1.map (valD (numF b (dsts u.ops)).1)).map encI))])] [4,5] [3,4] [.b (PX.lenIs u.term.args1.length ((u.term.args1.map (valD (numF b (dsts u.ops)).1)).map encI))] hS ⟨(by simp [PX.lenIs]),trivial⟩
       have hS0:=(hN1.2.2 _ _ _ _ _ _ (hN2.2.2 _ _ _ _ _ _ hS).1).1
       have hd1f:=(hN2.2.2 _ _ _ _ _ _ hS).2 D1 _ (hw2 _ _ hD1b)
       have hd2f:=(hN2.2.2 _ _ _ _ _ _ hS).2 D2 _ hd2
       rw [show PX.PV.tup [.agg (encB (jQ b u)),.sc (.bool (okQ b u))]=((.tup [(.agg [(.J b.params),(.imm 11 ((b.ops++u.ops.map (renP (numF b (dsts u.ops)).1)).map encO)),(.J u.term.kind),(.sc (.I (valD (numF b (dsts u.ops)).1 u.term.a))),(.J u.term.n),(.imm 1 (u.term.args.map encI)),(.J u.term.b0),(.imm 1 ((u.term.args0.map (valD (numF b (dsts u.ops)).1)).map encI)),(.J u.term.b1),(.imm 1 ((u.term.args1.map (valD (numF b (dsts u.ops)).1)).map encI))]),.sc (.bool true)]):PX.PV) from by unfold jQ; rw [show okQ b u=true from hpn2] <;> rfl]
       exact PX.ret_w (a:=a) [D2,D1] hS0 hE0 (by simp only [List.nodup_cons,List.mem_singleton,List.not_mem_nil,not_false_iff,List.nodup_nil,and_true]; omega) (fun D hD=>by
        simp only [List.mem_cons,List.not_mem_nil,or_false] at hD
        rcases hD with rfl | rfl
        ·exact ⟨by omega,hd2f⟩
        ·exact ⟨by omega,hd1f⟩) (by kernel_rfl) (by kernel_rfl) (by kernel_rfl) (by kernel_rfl)
end Go.Proofs.Ytlkcidmmpeebeaa
