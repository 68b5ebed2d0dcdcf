/- Proved: the small parts of the document's layout -/
import Derived.Test.YtlkcidmmpeebeaaPcK
import Derived.Test.YtlkcidmmpeebeaaUnB
set_option linter.unusedVariables false
set_option linter.unusedSimpArgs false
namespace Go.Proofs.Ytlkcidmmpeebeaa
open Go.RowKit Go.PX
set_option maxRecDepth 100000
def eqPl (x y:PlaceD):Bool:=x.1==y.1&&(x.2.1==y.2.1&&x.2.2==y.2.2)
theorem eq78 (i j:Nat) (x y:PlaceD):PX.BinIs Try.prog .eql 78 (.tmp i) (.tmp j) (.agg #[.I x.1,.I x.2.1,.I x.2.2]) (.agg #[.I y.1,.I y.2.1,.I y.2.2]) (.bool (eqPl x y)):=by
 intro w
 unfold eqPl
 cases h1:(x.1==y.1) <;> cases h2:(x.2.1==y.2.1) <;> cases h3:(x.2.2==y.2.2) <;> simp [go_sem,eqGuard,Try.underlying78,h1,h2,h3]
def getPl (l:List PlaceD) (i:Nat):PlaceD:=(l[i]?).getD (0,0,0)
def takenD (l:List PlaceD) (la:List Int) (p:PlaceD) (k:Int):Bool:=(List.range l.length).any fun i=>eqPl (getPl l i) p&&decide (k<PX.g la i)
def paramD (v:Nat):PlaceD:=if v<8 then (2,((v+1:Nat):Int),0) else (3,(v:Int)-8,0)
theorem any_range {p:Nat→Bool} {n j:Nat} (hj:j<n) (hp:p j=true):(List.range n).any p=true:=List.any_eq_true.2 ⟨j,List.mem_range.2 hj,hp⟩
theorem any_range_no {p:Nat→Bool} {n:Nat} (h:∀ i,i<n→p i=false):(List.range n).any p=false:=List.any_eq_false.2 fun i hi=>by rw [h i (List.mem_range.1 hi)]; simp
def beforeD (a b:OpD):Bool:=if (a.ctx != b.ctx)=true then decide (a.ctx<b.ctx) else if (a.var != b.var)=true then decide (a.var<b.var) else decide (a.piece<b.piece)
def endsR (t:TermD):List Int:=t.args++(if t.kind=2∨t.kind=4∨t.kind=5 then [t.a] else [])++t.args0++t.args1
def enA (t:TermD):List Int:=t.args++(if t.kind=2∨t.kind=4∨t.kind=5 then [t.a] else [])
theorem enA_len (t:TermD):(enA t).length≤1+t.args.length:=by unfold enA; split <;> simp <;> omega
theorem contains_at {l:List Int} {y v:Int} {j:Nat} (hy:l[j]?=some y) (hv:(v==y)=true):l.contains v=true:=by
 rw [List.contains_iff_mem,← eq_of_beq (show (y==v)=true by rw [Bool.beq_comm]; exact hv)]; exact List.mem_of_getElem? hy
theorem contains_no {l:List Int} {v:Int} (h:∀ (i:Nat) (y:Int),l[i]?=some y→(v==y)=false):l.contains v=false:=by
 rw [← Bool.not_eq_true,List.contains_iff_mem]
 intro hm
 obtain ⟨i,hi⟩:=List.getElem?_of_mem hm
 have:=h i v hi
 simp at this

set_option maxHeartbeats 400000 in
theorem con_f71 (l:List Int) (hl:l.length≤300000000) (v:Int):PX.Con Try.prog 71 [(.imm 1 (l.map encI)),(.J v)] [] 1 100000 (.sc (.bool (l.contains v))) []:=by
 refine PX.con_intro [(.imm 1 (l.map encI)),(.J v)] 17 Try.func71 rfl rfl (by kernel_rfl) (by kernel_rfl) ?_
 intro E a hE hS
 generalize E.w0=w at hS ⊢
 have mix:=mixed
 refine PX.G [] [] 1 [] [] [.au] [0,1] [] hS hE trivial fun a w hS=>?_
 refine wp_seq_k fun K1 hK1=>?_
 refine PX.G [(.e 7 (.imm 1 (l.map encI))),(.e 8 (.sc (.I (l.length:Int)))),(.e 9 (.J 0))] [] 1 [.q ((.sc (.I (((l.map encI).length:Nat):Int)):PX.PV)=(.sc (.I (l.length:Int))))] [] [.au,.nm (.sc (.I (l.length:Int))),.au] [1,7,8,9] [] hS hE ⟨PX.nm_len (by simp),trivial⟩ fun a w hS=>?_
 refine wp_block ?_
 refine wp_loop_ghost (fun m2 a' w'=>∃ j:Nat,m2=l.length-j∧j≤l.length∧(∀ i u,i<j→l[i]?=some u→(v==u)=false)∧PX.Sat E 17 [(.e 1 (.J v)),(.e 7 (.imm 1 (l.map encI))),(.e 8 (.sc (.I (l.length:Int)))),(.e 9 (.sc (.I (j:Int))))] [] 1 a' w') (l.length-0) ⟨0,rfl,Nat.zero_le _,(fun i u hi=>by omega),(PX.cn [] _ _ 1 hS hE)⟩ ?_
 clear hS; rintro m2 a w ⟨j,hm2,hlej,hIj,hS⟩
 refine PX.G [(.e 10 (.sc (.bool (decide ((j:Int)<(l.length:Int))))))] [] 1 [] [] [.au] [1,7,8,9,10] [] hS hE trivial fun a w hS=>?_
 refine wp_seq_k fun K3 hK3=>?_
 refine PX.cond_s (decide ((j:Int)<(l.length:Int))) hS (by kernel_rfl) (fun h4=>?_) (fun h4=>?_)
 ·skip
  refine wp_skip ?_
  refine hK3 _ _ ?_
  refine wp_seq_k fun K5 hK5=>?_
  refine wp_block ?_
  have hlty:j<l.length:=by simpa using h4
  obtain ⟨y,hy⟩:=get_of_lt hlty
  refine PX.G [(.e 6 (.J y))] [] 1 [.q ((j:Int)=(j:Int)),.q ((l.map encI)[j]?=some (encI y))] [] [.ix j (encI y),.au,.au] [1,6,7,8,9] [] hS hE ⟨rfl,PX.map_get hy,trivial⟩ fun a w hS=>?_
  refine PX.G [(.e 15 (.sc (.bool (v==y))))] [] 1 [] [] [.au,.au,.au] [1,7,8,9,15] [] hS hE trivial fun a w hS=>?_
  refine PX.cond_s (v==y) hS (by kernel_rfl) (fun h6=>?_) (fun h6=>?_)
  ·skip
   refine PX.G [(.e 4 (.sc (.bool true)))] [] 1 [] [] [.au] [1,4,7,8,9] [] hS hE trivial fun a w hS=>?_
   refine wp_ret ?_
   rw [show (.sc (.bool (l.contains v)))=((.sc (.bool true)):PX.PV) from by rw [contains_at hy h6]]
   exact PX.rt hS hE (.inl rfl)
  ·skip
   refine wp_skip ?_
   refine hK5 _ _ ?_
   refine PX.G0 [(.e 9 (.sc (.I ((j+1:Nat):Int))))] [] 1 [.q ((.sc (.I (IntKind.i64.wrap ((j:Int)+1))):PX.PV)=(.sc (.I ((j+1:Nat):Int))))] [] [.nm (.sc (.I ((j+1:Nat):Int))),.au] [1,7,8,9] [] hS hE ⟨PX.nm_int (by rw [IntWalk.i64_in _ (by omega)]; omega),trivial⟩ fun a w hS=>?_
   exact ⟨l.length-(j+1),by omega,j+1,rfl,by omega,(fun i u hi hu=>if q:i<j then hIj i u q hu else by obtain rfl:i=j:=(by omega); rw [hy] at hu; injection hu with hu; subst hu; exact h6),(PX.cn [] _ _ 1 hS hE)⟩
 ·skip
  refine wp_exit ?_
  refine hK1 _ _ ?_
  refine PX.G [(.e 4 (.sc (.bool false)))] [] 1 [] [] [.au] [4] [] hS hE trivial fun a w hS=>?_
  refine wp_ret ?_
  rw [show (.sc (.bool (l.contains v)))=((.sc (.bool false)):PX.PV) from by rw [contains_no fun i y hy=>hIj i y (by have hq:=(List.getElem?_eq_some_iff.1 hy).1; have:=le_of_dec h4; omega) hy]]
  exact PX.rt hS hE (.inl rfl)

set_option maxHeartbeats 400000 in
theorem con_f109 (l:List PlaceD) (la:List Int) (p:PlaceD) (k:Int) (hla:la.length=l.length) (hl:l.length≤1000000):PX.Con Try.prog 109 [(.imm 3 (l.map encR)),(.imm 1 (la.map encI)),(.agg [(.J p.1),(.J p.2.1),(.J p.2.2)]),(.J k)] [] 1 100000 (.sc (.bool (takenD l la p k))) []:=by
 refine PX.con_intro [(.imm 3 (l.map encR)),(.imm 1 (la.map encI)),(.agg [(.J p.1),(.J p.2.1),(.J p.2.2)]),(.J k)] 30 Try.func109 rfl rfl (by kernel_rfl) (by kernel_rfl) ?_
 intro E a hE hS
 generalize E.w0=w at hS ⊢
 have mix:=mixed
 refine PX.G [(.e 6 (.ptr 1 0))] [(1,.box 78 [(.J p.1),(.J p.2.1),(.J p.2.2)])] 2 [] [] [.au,.au] [0,1,3,6] [1] hS hE trivial fun a w hS=>?_
 refine wp_seq_k fun K1 hK1=>?_
 refine PX.G [(.e 11 (.imm 3 (l.map encR))),(.e 12 (.sc (.I (l.length:Int)))),(.e 13 (.J 0))] [] 2 [.q ((.sc (.I (((l.map encR).length:Nat):Int)):PX.PV)=(.sc (.I (l.length:Int))))] [] [.au,.nm (.sc (.I (l.length:Int))),.au] [1,3,6,11,12,13] [1] hS hE ⟨PX.nm_len (by simp),trivial⟩ fun a w hS=>?_
 refine wp_block ?_
 refine wp_loop_ghost (fun m2 a' w'=>∃ j:Nat,m2=l.length-j∧j≤l.length∧(∀ i,i<j→(eqPl (getPl l i) p&&decide (k<PX.g la i))=false)∧PX.Sat E 30 [(.e 1 (.imm 1 (la.map encI))),(.e 3 (.J k)),(.e 6 (.ptr 1 0)),(.e 11 (.imm 3 (l.map encR))),(.e 12 (.sc (.I (l.length:Int)))),(.e 13 (.sc (.I (j:Int))))] [(1,.box 78 [(.J p.1),(.J p.2.1),(.J p.2.2)])] 2 a' w') (l.length-0) ⟨0,rfl,Nat.zero_le _,(fun i hi=>by omega),(PX.cn [] _ _ 2 hS hE)⟩ ?_
 clear hS; rintro m2 a w ⟨j,hm2,hlej,hIj,hS⟩
 refine PX.G [(.e 14 (.sc (.bool (decide ((j:Int)<(l.length:Int))))))] [] 2 [] [] [.au] [1,3,6,11,12,13,14] [1] hS hE trivial fun a w hS=>?_
 refine wp_seq_k fun K3 hK3=>?_
 refine PX.cond_s (decide ((j:Int)<(l.length:Int))) hS (by kernel_rfl) (fun h4=>?_) (fun h4=>?_)
 ·skip
  refine wp_skip ?_
  refine hK3 _ _ ?_
  refine wp_seq_k fun K5 hK5=>?_
  refine wp_block ?_
  have hlty:j<l.length:=by simpa using h4
  obtain ⟨y,hy⟩:=get_of_lt hlty
  obtain ⟨z,hz⟩:=get_of_lt (show j<la.length by omega)
  have hgy:getPl l j=y:=by unfold getPl; rw [hy]; rfl
  have hgz:PX.g la j=z:=by unfold PX.g; rw [hz]; rfl
  refine PX.G [(.e 9 (.sc (.I (j:Int)))),(.e 10 (.ptr 2 0))] [(2,.box 78 [(.J y.1),(.J y.2.1),(.J y.2.2)])] 3 [.q ((j:Int)=(j:Int)),.q ((l.map encR)[j]?=some (encR y))] [] [.au,.ix j (encR y),.au,.au,.au,.au] [1,3,6,9,10,11,12,13] [1,2] hS hE ⟨rfl,PX.map_get hy,trivial⟩ fun a w hS=>?_
  refine PX.G [(.e 28 (.sc (.bool ((eqPl y p)&&decide (k<z)))))] [] 3 [.q (PX.BinIs Try.prog .eql 78 (.tmp 18) (.tmp 19) (.agg [.I y.1,.I y.2.1,.I y.2.2].toArray) (.agg [.I p.1,.I p.2.1,.I p.2.2].toArray) (.bool (eqPl y p))),.q (SX.pv [(3,(eqPl y p))] [(3,true)]=true→PX.AllOb [.q ((j:Int)=(j:Int)),.q ((la.map encI)[j]?=some (encI z))])] [(3,(eqPl y p))] [.au,.au,.bs (.bool (eqPl y p)),.au,.au,.au,.ix j (encI z),.au,.au,.au,.pk] [1,3,6,11,12,13,28] [1] hS hE ⟨eq78 _ _ y p,fun hg=>⟨rfl,PX.map_get hz,trivial⟩,trivial⟩ fun a w hS=>?_
  refine PX.cond_s ((eqPl y p)&&decide (k<z)) hS (by kernel_rfl) (fun h6=>?_) (fun h6=>?_)
  ·skip
   refine PX.G [(.e 8 (.sc (.bool true)))] [] 3 [] [] [.au] [1,3,6,8,11,12,13] [1] hS hE trivial fun a w hS=>?_
   refine wp_ret ?_
   rw [show (.sc (.bool (takenD l la p k)))=((.sc (.bool true)):PX.PV) from by rw [show takenD l la p k=true from any_range hlty (by rw [hgy,hgz]; exact h6)]]
   exact PX.rt hS hE (.inl rfl)
  ·skip
   refine wp_skip ?_
   refine hK5 _ _ ?_
   refine PX.G0 [(.e 13 (.sc (.I ((j+1:Nat):Int))))] [] 3 [.q ((.sc (.I (IntKind.i64.wrap ((j:Int)+1))):PX.PV)=(.sc (.I ((j+1:Nat):Int))))] [] [.nm (.sc (.I ((j+1:Nat):Int))),.au] [1,3,6,11,12,13] [1] hS hE ⟨PX.nm_int (by rw [IntWalk.i64_in _ (by omega)]; omega),trivial⟩ fun a w hS=>?_
   exact ⟨l.length-(j+1),by omega,j+1,rfl,by omega,(fun i hi=>if q:i<j then hIj i q else by obtain rfl:i=j:=(by omega); rw [hgy,hgz]; exact h6),(PX.cn [] _ _ 2 hS hE)⟩
 ·skip
  refine wp_exit ?_
  refine hK1 _ _ ?_
  refine PX.G [(.e 8 (.sc (.bool false)))] [] 2 [] [] [.au] [8] [] hS hE trivial fun a w hS=>?_
  refine wp_ret ?_
  rw [show (.sc (.bool (takenD l la p k)))=((.sc (.bool false)):PX.PV) from by rw [show takenD l la p k=false from any_range_no fun i hi=>hIj i (by have:=le_of_dec h4; omega)]]
  exact PX.rt hS hE (.inl rfl)

set_option maxHeartbeats 400000 in
theorem con_f108 (v:Nat) (hv:v≤1000000):PX.Con Try.prog 108 [(.sc (.I (v:Int)))] [] 1 100000 (.agg [(.sc (.I ((paramD v).1))),(.sc (.I ((paramD v).2.1))),(.sc (.I ((paramD v).2.2)))]) []:=by
 refine PX.con_intro [(.sc (.I (v:Int)))] 11 Try.func108 rfl rfl (by kernel_rfl) (by kernel_rfl) ?_
 intro E a hE hS
 generalize E.w0=w at hS ⊢
 have mix:=mixed
 refine PX.G [(.e 2 (.ptr 1 0))] [(1,.box 78 [(.J 0),(.J 0),(.J 0)])] 2 [] [] [.au] [0,2] [1] hS hE trivial fun a w hS=>?_
 refine wp_seq_k fun K1 hK1=>?_
 refine PX.G [(.e 4 (.sc (.bool (decide ((v:Int)<8)))))] [] 2 [] [] [.au,.au] [0,2,4] [1] hS hE trivial fun a w hS=>?_
 refine PX.cond_s (decide ((v:Int)<8)) hS (by kernel_rfl) (fun h2=>?_) (fun h2=>?_)
 ·skip
  refine PX.G [] [(1,.box 78 [(.J 2),(.sc (.I ((v+1:Nat):Int))),(.J 0)])] 2 [.q ((.sc (.I (IntKind.i64.wrap (1+(v:Int)))):PX.PV)=(.sc (.I ((v+1:Nat):Int))))] [] [.au,.nm (.sc (.I ((v+1:Nat):Int))),.au,.au] [2] [1] hS hE ⟨PX.nm_int (by rw [IntWalk.i64_in _ (by omega)]; omega),trivial⟩ fun a w hS=>?_
  refine wp_ret ?_
  rw [show (.agg [(.sc (.I ((paramD v).1))),(.sc (.I ((paramD v).2.1))),(.sc (.I ((paramD v).2.2)))])=((.agg [(.J 2),(.sc (.I ((v+1:Nat):Int))),(.J 0)]):PX.PV) from by unfold paramD; rw [if_pos (show v<8 by have:=of_decide_eq_true h2; omega)]]
  exact PX.rt hS hE (.inl rfl)
 ·skip
  refine wp_skip ?_
  refine hK1 _ _ ?_
  refine PX.G [] [(1,.box 78 [(.J 3),(.sc (.I ((v:Int)-8))),(.J 0)])] 2 [.q ((.sc (.I (IntKind.i64.wrap ((v:Int)-8))):PX.PV)=(.sc (.I ((v:Int)-8))))] [] [.au,.nm (.sc (.I ((v:Int)-8))),.au,.au] [2] [1] hS hE ⟨PX.nm_int (by rw [IntWalk.i64_in _ (by omega)]),trivial⟩ fun a w hS=>?_
  refine wp_ret ?_
  rw [show (.agg [(.sc (.I ((paramD v).1))),(.sc (.I ((paramD v).2.1))),(.sc (.I ((paramD v).2.2)))])=((.agg [(.J 3),(.sc (.I ((v:Int)-8))),(.J 0)]):PX.PV) from by unfold paramD; rw [if_neg (show ¬ v<8 by have:=of_decide_eq_false h2; omega)]]
  exact PX.rt hS hE (.inl rfl)

set_option maxHeartbeats 400000 in
theorem con_f159 (u v:OpD):PX.Con Try.prog 159 [(.agg (encO u)),(.agg (encO v))] [] 1 100000 (.sc (.bool (beforeD u v))) []:=by
 refine PX.con_intro [(.agg (encO u)),(.agg (encO v))] 30 Try.func159 rfl rfl (by kernel_rfl) (by kernel_rfl) ?_
 intro E a hE hS
 generalize E.w0=w at hS ⊢
 have mix:=mixed
 refine PX.G [(.e 2 (.ptr 1 0)),(.e 3 (.ptr 2 0))] [(1,.box 74 (encO u)),(2,.box 74 (encO v))] 3 [] [] [.au,.au,.au] [2,3] [1,2] hS hE trivial fun a w hS=>?_
 refine wp_seq_k fun K1 hK1=>?_
 refine PX.G [(.e 9 (.sc (.bool (u.ctx != v.ctx))))] [] 3 [] [] [.au,.au,.au,.au,.au] [2,3,9] [1,2] hS hE trivial fun a w hS=>?_
 refine PX.cond_s (u.ctx != v.ctx) hS (by kernel_rfl) (fun h2=>?_) (fun h2=>?_)
 ·skip
  refine PX.G [(.e 4 (.sc (.bool (decide (u.ctx<v.ctx)))))] [] 3 [] [] [.au,.au,.au,.au,.au,.au] [4] [] hS hE trivial fun a w hS=>?_
  refine wp_ret ?_
  rw [show (.sc (.bool (beforeD u v)))=((.sc (.bool (decide (u.ctx<v.ctx)))):PX.PV) from by unfold beforeD; rw [if_pos h2]]
  exact PX.rt hS hE (.inl rfl)
 ·skip
  refine wp_skip ?_
  refine hK1 _ _ ?_
  refine wp_seq_k fun K3 hK3=>?_
  refine PX.G [(.e 19 (.sc (.bool (u.var != v.var))))] [] 3 [] [] [.au,.au,.au,.au,.au] [2,3,19] [1,2] hS hE trivial fun a w hS=>?_
  refine PX.cond_s (u.var != v.var) hS (by kernel_rfl) (fun h4=>?_) (fun h4=>?_)
  ·skip
   refine PX.G [(.e 4 (.sc (.bool (decide (u.var<v.var)))))] [] 3 [] [] [.au,.au,.au,.au,.au,.au] [4] [] hS hE trivial fun a w hS=>?_
   refine wp_ret ?_
   rw [show (.sc (.bool (beforeD u v)))=((.sc (.bool (decide (u.var<v.var)))):PX.PV) from by unfold beforeD; rw [if_neg (by rw [h2]; simp),if_pos h4]]
   exact PX.rt hS hE (.inl rfl)
  ·skip
   refine wp_skip ?_
   refine hK3 _ _ ?_
   refine PX.G [(.e 4 (.sc (.bool (decide (u.piece<v.piece)))))] [] 3 [] [] [.au,.au,.au,.au,.au,.au] [4] [] hS hE trivial fun a w hS=>?_
   refine wp_ret ?_
   rw [show (.sc (.bool (beforeD u v)))=((.sc (.bool (decide (u.piece<v.piece)))):PX.PV) from by unfold beforeD; rw [if_neg (by rw [h2]; simp),if_neg (by rw [h4]; simp)]]
   exact PX.rt hS hE (.inl rfl)

set_option maxHeartbeats 1000000 in
theorem con_f30 (b:BlockD) (hl:b.term.args0.length≤110000000∧b.term.args1.length≤110000000):PX.Con Try.prog 30 [(.agg (encB b))] [] 1 100000 (.imm 1 ((savedD b.term).map encI)) []:=by
 refine PX.con_intro [(.agg (encB b))] 45 Try.func30 rfl rfl (by kernel_rfl) (by kernel_rfl) ?_
 intro E a hE hS
 generalize E.w0=w at hS ⊢
 have mix:=mixed
 refine PX.G [(.e 1 (.ptr 1 0))] [(1,.box 62 (encB b))] 2 [] [] [.au,.au] [1] [1] hS hE trivial fun a w hS=>?_
 refine PX.G [(.e 3 (.sc (.slice none 0 0)))] [] 2 [] [] [.au] [1,3] [1] hS hE trivial fun a w hS=>?_
 replace hS:=PX.sl [1,3] (PX.reslot (t:=3) (.own 2 1 0) (PX.newrow 3 1 hS (hE.le (by decide))) rfl (PX.nil_own 2 1))
 refine wp_seq_k fun K1 hK1=>?_
 refine PX.G [(.e 4 (.J 0))] [] 3 [] [] [.au] [1,3,4] [1,2] hS hE trivial fun a w hS=>?_
 refine wp_block ?_
 refine wp_loop_rounds 3 ?_
 rw [rounds_succ]
 refine wp_seq_k fun K2 hK2=>?_
 refine PX.G [(.e 10 (.ptr 1 2)),(.e 11 (.ptr 1 2)),(.e 12 (.J b.term.kind)),(.e 13 (.sc (.bool (b.term.kind==3)))),(.e 14 (.sc (.bool (b.term.kind==3))))] [] 3 [] [] [.au,.au,.au,.au,.au,.au,.au,.au] [1,3,4,10,11,12,13,14] [1,2] hS hE trivial fun a w hS=>?_
 refine PX.cond_s (b.term.kind==3) hS (by kernel_rfl) (fun h3=>?_) (fun h3=>?_)
 ·skip
  refine wp_skip ?_
  refine hK2 _ _ ?_
  refine wp_seq_k fun K4 hK4=>?_
  refine wp_block ?_
  refine wp_seq_k fun K5 hK5=>?_
  refine PX.G [(.e 23 (.sc (.bool (decide (b.term.b0<0)))))] [] 3 [] [] [.au,.au,.au,.au,.au,.au,.au] [1,3,4,10,11,12,13,23] [1,2] hS hE trivial fun a w hS=>?_
  refine PX.cond_s (decide (b.term.b0<0)) hS (by kernel_rfl) (fun h6=>?_) (fun h6=>?_)
  ·skip
   refine wp_exit ?_
   refine hK4 _ _ ?_
   refine PX.G0 [(.e 4 (.J 1))] [] 3 [] [] [.au,.au,.au] [1,3,4,10,11,12,13] [1,2] hS hE trivial fun a w hS=>?_
   show Code.rounds _ _ _ 2 _ _
   rw [rounds_succ]
   refine wp_seq_k fun K7 hK7=>?_
   refine PX.G [(.e 10 (.ptr 1 2)),(.e 11 (.ptr 1 2)),(.e 12 (.J b.term.kind)),(.e 13 (.sc (.bool (b.term.kind==3)))),(.e 14 (.sc (.bool (b.term.kind==3))))] [] 3 [] [] [.au,.au,.au,.au,.au,.au,.au,.au] [1,3,4,10,11,12,13,14] [1,2] hS hE trivial fun a w hS=>?_
   refine PX.cond_s (b.term.kind==3) hS (by kernel_rfl) (fun h8=>?_) (fun h8=>nomatch (h3.symm.trans h8))
   refine wp_skip ?_
   refine hK7 _ _ ?_
   refine wp_seq_k fun K9 hK9=>?_
   refine wp_block ?_
   refine wp_seq_k fun K10 hK10=>?_
   refine PX.G [(.e 23 (.sc (.bool (decide (b.term.b1<0)))))] [] 3 [] [] [.au,.au,.au,.au,.au,.au,.au] [1,3,4,10,11,12,13,23] [1,2] hS hE trivial fun a w hS=>?_
   refine PX.cond_s (decide (b.term.b1<0)) hS (by kernel_rfl) (fun h11=>?_) (fun h11=>?_)
   ·skip
    refine wp_exit ?_
    refine hK9 _ _ ?_
    refine PX.G0 [(.e 4 (.J 2))] [] 3 [] [] [.au,.au,.au] [1,3,4,10,11,12,13] [1,2] hS hE trivial fun a w hS=>?_
    show Code.rounds _ _ _ 1 _ _
    rw [rounds_succ]
    refine wp_seq_k fun K12 hK12=>?_
    refine PX.G [(.e 14 (.sc (.bool false)))] [] 3 [] [(2,false)] [.au,.au,.au,.dd,.dd,.dd,.dd,.au] [1,3,4,14] [1,2] hS hE trivial fun a w hS=>?_
    refine PX.cond_s false hS (by kernel_rfl) (fun h13=>nomatch h13) (fun h13=>?_)
    refine wp_exit ?_
    refine hK1 _ _ ?_
    refine PX.G [(.e 2 (.own 2 1 0))] [] 3 [] [] [.au,.au] [2] [2] hS hE trivial fun a w hS=>?_
    replace hS:=PX.fz 2 [(.e 2 (.imm 1 ([])))] [] [2] [] [.b (PX.lenIs 0 ([]))] hS ⟨(by simp [PX.lenIs]),trivial⟩
    refine wp_ret ?_
    rw [show (.imm 1 ((savedD b.term).map encI))=((.imm 1 ([])):PX.PV) from congrArg (fun l=>PX.PV.imm 1 (l.map encI)) (show savedD b.term=([]:List Int) from by unfold savedD; rw [if_pos (show b.term.kind=3 by simpa using h3),if_neg (by have:=of_decide_eq_true h11; omega),if_neg (by have:=of_decide_eq_true h6; omega)])]
    exact PX.rt hS hE (.inl rfl)
   ·skip
    refine wp_skip ?_
    refine hK10 _ _ ?_
    refine PX.G [(.e 29 (.imm 1 (b.term.args1.map encI))),(.e 30 (.sc (.I (b.term.args1.length:Int)))),(.e 31 (.J 0))] [] 3 [.q ((.sc (.I (((b.term.args1.map encI).length:Nat):Int)):PX.PV)=(.sc (.I (b.term.args1.length:Int))))] [] [.au,.au,.au,.au,.au,.au,.nm (.sc (.I (b.term.args1.length:Int))),.au] [1,3,4,10,11,12,13,29,30,31] [1,2] hS hE ⟨PX.nm_len (by simp),trivial⟩ fun a w hS=>?_
    refine wp_block ?_
    have hA1:=fold_addN_len b.term.args1 ([]:List Int); (try simp only [List.length_nil,Nat.zero_add] at hA1)
    replace hS:=PX.sl [1,3,4,10,11,12,13,29,30,31] (PX.reslot (t:=3) (.own 2 1 (((b.term.args1.take (0)).foldl addN ([]:List Int)).length)) hS rfl (fun _ _ _ _ h=>(show (.own 2 1 0:PX.PV)=.own 2 1 ((b.term.args1.take (0)).foldl addN ([]:List Int)).length from by simp) ▸ h))
    replace hS:=PX.rerow (id:=2) (((b.term.args1.take (0)).foldl addN ([]:List Int)).map encI) hS rfl (by simp)
    refine wp_loop_ghost (fun m14 a' w'=>∃ k1:Nat,m14=b.term.args1.length-k1∧k1≤b.term.args1.length∧True∧PX.Sat E 45 [(.e 1 (.ptr 1 0)),(.e 3 (.own 2 1 (((b.term.args1.take (k1)).foldl addN ([]:List Int)).length))),(.e 4 (.J 1)),(.e 10 (.ptr 1 2)),(.e 11 (.ptr 1 2)),(.e 12 (.J b.term.kind)),(.e 13 (.sc (.bool (b.term.kind==3)))),(.e 29 (.imm 1 (b.term.args1.map encI))),(.e 30 (.sc (.I (b.term.args1.length:Int)))),(.e 31 (.sc (.I (k1:Int))))] [(1,.box 62 (encB b)),(2,.row 3 1 true (((b.term.args1.take (k1)).foldl addN ([]:List Int)).map encI))] 3 a' w') (b.term.args1.length-0) ⟨0,rfl,Nat.zero_le _,trivial,(PX.cn [] _ _ 3 hS hE)⟩ ?_
    clear hS; rintro m14 a w ⟨k1,hm14,hlek1,hIk1,hS⟩
    refine PX.G [(.e 32 (.sc (.bool (decide ((k1:Int)<(b.term.args1.length:Int))))))] [] 3 [] [] [.au] [1,3,4,10,11,12,13,29,30,31,32] [1,2] hS hE trivial fun a w hS=>?_
    refine wp_seq_k fun K15 hK15=>?_
    refine PX.cond_s (decide ((k1:Int)<(b.term.args1.length:Int))) hS (by kernel_rfl) (fun h16=>?_) (fun h16=>?_)
    ·skip
     refine wp_skip ?_
     refine hK15 _ _ ?_
     refine wp_seq_k fun K17 hK17=>?_
     refine wp_block ?_
     have hlty:k1<b.term.args1.length:=by simpa using h16
     obtain ⟨y,hy⟩:=get_of_lt hlty
     refine PX.G [(.e 6 (.J y))] [] 3 [.q ((k1:Int)=(k1:Int)),.q ((b.term.args1.map encI)[k1]?=some (encI y))] [] [.ix k1 (encI y),.au,.au] [1,3,4,6,10,11,12,13,29,30,31] [1,2] hS hE ⟨rfl,PX.map_get hy,trivial⟩ fun a w hS=>?_
     refine PX.G [(.e 38 (.sc (.bool (!((((b.term.args1.take (k1)).foldl addN ([]:List Int))).contains y)))))] [] 3 [.q (PX.Con Try.prog 71 [(.imm 1 (((b.term.args1.take (k1)).foldl addN ([]:List Int)).map encI)),(.J y)] [] 3 3 (.sc (.bool ((((b.term.args1.take (k1)).foldl addN ([]:List Int))).contains y))) []),.b (PX.lenIs (((b.term.args1.take (k1)).foldl addN ([]:List Int)).length) (((b.term.args1.take (k1)).foldl addN ([]:List Int)).map encI))] [] [.au,.au,.cr [2] (.bool ((((b.term.args1.take (k1)).foldl addN ([]:List Int))).contains y)),.au] [1,3,4,6,10,11,12,13,29,30,31,38] [1,2] hS hE ⟨PX.con_any (con_f71 ((b.term.args1.take (k1)).foldl addN ([]:List Int)) (by have hq:=fold_addN_len (b.term.args1.take k1) ([]:List Int); simp only [List.length_take] at hq; (try simp only [List.length_nil] at hq); omega) y),by simp [PX.lenIs],trivial⟩ fun a w hS=>?_
     refine PX.cond_s (!((((b.term.args1.take (k1)).foldl addN ([]:List Int))).contains y)) hS (by kernel_rfl) (fun h18=>?_) (fun h18=>?_)
     ·skip
      refine PX.G0 [(.e 3 (.own 4 1 ((((b.term.args1.take (k1)).foldl addN ([]:List Int)).map encI:List (List PX.PV)).length+1)))] [(4,.row 3 1 true (((b.term.args1.take (k1)).foldl addN ([]:List Int)).map encI++[[(.J y)]]))] 5 [.b (lenIs (((b.term.args1.take (k1)).foldl addN ([]:List Int)).length) (((b.term.args1.take (k1)).foldl addN ([]:List Int)).map encI)),.b (lenIs 1 ([[(.J y)]])),.b (Nat.ble ((((b.term.args1.take (k1)).foldl addN ([]:List Int)).map encI:List (List PX.PV)).length+1) 1000000000)] [] [.au,.au,.au,.au,.au] [1,3,4,10,11,12,13,29,30,31] [1,4] hS hE ⟨by simp [PX.lenIs],rfl,by rw [Nat.ble_eq]; have hq:=fold_addN_len (b.term.args1.take k1) ([]:List Int); simp only [List.length_take,List.length_map,List.length_cons,List.length_nil] at hq ⊢; omega,trivial⟩ fun a w hS=>?_
      refine hK17 _ _ ?_
      refine PX.G0 [(.e 31 (.sc (.I ((k1+1:Nat):Int))))] [] 5 [.q ((.sc (.I (IntKind.i64.wrap ((k1:Int)+1))):PX.PV)=(.sc (.I ((k1+1:Nat):Int))))] [] [.nm (.sc (.I ((k1+1:Nat):Int))),.au] [1,3,4,10,11,12,13,29,30,31] [1,4] hS hE ⟨PX.nm_int (by rw [IntWalk.i64_in _ (by omega)]; omega),trivial⟩ fun a w hS=>?_
      have hc:(((b.term.args1.take (k1)).foldl addN ([]:List Int)).contains y)=false:=by simpa using h18
      replace hS:=PX.sl [1,3,4,10,11,12,13,29,30,31] (PX.reslot (t:=3) (.own 4 1 (((b.term.args1.take (k1+1)).foldl addN ([]:List Int)).length)) hS rfl (fun _ _ _ _ h=>(show (.own 4 1 ((((b.term.args1.take (k1)).foldl addN ([]:List Int)).map encI:List (List PX.PV)).length+1):PX.PV)=.own 4 1 ((b.term.args1.take (k1+1)).foldl addN ([]:List Int)).length from by rw [add_take hy,addN_new hc]; simp) ▸ h))
      replace hS:=PX.rerow (id:=4) (((b.term.args1.take (k1+1)).foldl addN ([]:List Int)).map encI) hS rfl (by rw [add_take hy,addN_new hc]; simp [encI])
      exact ⟨b.term.args1.length-(k1+1),by omega,k1+1,rfl,by omega,trivial,(PX.cn [(2,4)] _ _ 3 hS hE)⟩
     ·skip
      refine wp_skip ?_
      refine hK17 _ _ ?_
      refine PX.G0 [(.e 31 (.sc (.I ((k1+1:Nat):Int))))] [] 3 [.q ((.sc (.I (IntKind.i64.wrap ((k1:Int)+1))):PX.PV)=(.sc (.I ((k1+1:Nat):Int))))] [] [.nm (.sc (.I ((k1+1:Nat):Int))),.au] [1,3,4,10,11,12,13,29,30,31] [1,2] hS hE ⟨PX.nm_int (by rw [IntWalk.i64_in _ (by omega)]; omega),trivial⟩ fun a w hS=>?_
      have hc:(((b.term.args1.take (k1)).foldl addN ([]:List Int)).contains y)=true:=by simpa using h18
      replace hS:=PX.sl [1,3,4,10,11,12,13,29,30,31] (PX.reslot (t:=3) (.own 2 1 (((b.term.args1.take (k1+1)).foldl addN ([]:List Int)).length)) hS rfl (fun _ _ _ _ h=>(show (.own 2 1 (((b.term.args1.take (k1)).foldl addN ([]:List Int)).length):PX.PV)=.own 2 1 ((b.term.args1.take (k1+1)).foldl addN ([]:List Int)).length from by rw [add_take hy,addN_old hc]) ▸ h))
      replace hS:=PX.rerow (id:=2) (((b.term.args1.take (k1+1)).foldl addN ([]:List Int)).map encI) hS rfl (by rw [add_take hy,addN_old hc])
      exact ⟨b.term.args1.length-(k1+1),by omega,k1+1,rfl,by omega,trivial,(PX.cn [] _ _ 3 hS hE)⟩
    ·skip
     refine wp_exit ?_
     refine hK9 _ _ ?_
     have hqk1:k1=b.term.args1.length:=by have:=le_of_dec h16; omega
     rw [hqk1,List.take_length] at hS
     refine PX.G0 [(.e 4 (.J 2))] [] 3 [] [] [.au,.au,.au] [1,3,4,10,11,12,13] [1,2] hS hE trivial fun a w hS=>?_
     show Code.rounds _ _ _ 1 _ _
     rw [rounds_succ]
     refine wp_seq_k fun K19 hK19=>?_
     refine PX.G [(.e 14 (.sc (.bool false)))] [] 3 [] [(2,false)] [.au,.au,.au,.dd,.dd,.dd,.dd,.au] [1,3,4,14] [1,2] hS hE trivial fun a w hS=>?_
     refine PX.cond_s false hS (by kernel_rfl) (fun h20=>nomatch h20) (fun h20=>?_)
     refine wp_exit ?_
     refine hK1 _ _ ?_
     refine PX.G [(.e 2 (.own 2 1 ((b.term.args1.foldl addN ([]:List Int)).length)))] [] 3 [] [] [.au,.au] [2] [2] hS hE trivial fun a w hS=>?_
     replace hS:=PX.fz 2 [(.e 2 (.imm 1 ((b.term.args1.foldl addN ([]:List Int)).map encI)))] [] [2] [] [.b (PX.lenIs ((b.term.args1.foldl addN ([]:List Int)).length) ((b.term.args1.foldl addN ([]:List Int)).map encI))] hS ⟨(by simp [PX.lenIs]),trivial⟩
     refine wp_ret ?_
     rw [show (.imm 1 ((savedD b.term).map encI))=((.imm 1 ((b.term.args1.foldl addN ([]:List Int)).map encI)):PX.PV) from congrArg (fun l=>PX.PV.imm 1 (l.map encI)) (show savedD b.term=(b.term.args1.foldl addN ([]:List Int)) from by unfold savedD; rw [if_pos (show b.term.kind=3 by simpa using h3),if_pos (by have:=of_decide_eq_false h11; omega),if_neg (by have:=of_decide_eq_true h6; omega)])]
     exact PX.rt hS hE (.inl rfl)
  ·skip
   refine wp_skip ?_
   refine hK5 _ _ ?_
   refine PX.G [(.e 29 (.imm 1 (b.term.args0.map encI))),(.e 30 (.sc (.I (b.term.args0.length:Int)))),(.e 31 (.J 0))] [] 3 [.q ((.sc (.I (((b.term.args0.map encI).length:Nat):Int)):PX.PV)=(.sc (.I (b.term.args0.length:Int))))] [] [.au,.au,.au,.au,.au,.au,.nm (.sc (.I (b.term.args0.length:Int))),.au] [1,3,4,10,11,12,13,29,30,31] [1,2] hS hE ⟨PX.nm_len (by simp),trivial⟩ fun a w hS=>?_
   refine wp_block ?_
   have hA0:=fold_addN_len b.term.args0 ([]:List Int); (try simp only [List.length_nil,Nat.zero_add] at hA0)
   replace hS:=PX.sl [1,3,4,10,11,12,13,29,30,31] (PX.reslot (t:=3) (.own 2 1 (((b.term.args0.take (0)).foldl addN ([]:List Int)).length)) hS rfl (fun _ _ _ _ h=>(show (.own 2 1 0:PX.PV)=.own 2 1 ((b.term.args0.take (0)).foldl addN ([]:List Int)).length from by simp) ▸ h))
   replace hS:=PX.rerow (id:=2) (((b.term.args0.take (0)).foldl addN ([]:List Int)).map encI) hS rfl (by simp)
   refine wp_loop_ghost (fun m21 a' w'=>∃ k0:Nat,m21=b.term.args0.length-k0∧k0≤b.term.args0.length∧True∧PX.Sat E 45 [(.e 1 (.ptr 1 0)),(.e 3 (.own 2 1 (((b.term.args0.take (k0)).foldl addN ([]:List Int)).length))),(.e 4 (.J 0)),(.e 10 (.ptr 1 2)),(.e 11 (.ptr 1 2)),(.e 12 (.J b.term.kind)),(.e 13 (.sc (.bool (b.term.kind==3)))),(.e 29 (.imm 1 (b.term.args0.map encI))),(.e 30 (.sc (.I (b.term.args0.length:Int)))),(.e 31 (.sc (.I (k0:Int))))] [(1,.box 62 (encB b)),(2,.row 3 1 true (((b.term.args0.take (k0)).foldl addN ([]:List Int)).map encI))] 3 a' w') (b.term.args0.length-0) ⟨0,rfl,Nat.zero_le _,trivial,(PX.cn [] _ _ 3 hS hE)⟩ ?_
   clear hS; rintro m21 a w ⟨k0,hm21,hlek0,hIk0,hS⟩
   refine PX.G [(.e 32 (.sc (.bool (decide ((k0:Int)<(b.term.args0.length:Int))))))] [] 3 [] [] [.au] [1,3,4,10,11,12,13,29,30,31,32] [1,2] hS hE trivial fun a w hS=>?_
   refine wp_seq_k fun K22 hK22=>?_
   refine PX.cond_s (decide ((k0:Int)<(b.term.args0.length:Int))) hS (by kernel_rfl) (fun h23=>?_) (fun h23=>?_)
   ·skip
    refine wp_skip ?_
    refine hK22 _ _ ?_
    refine wp_seq_k fun K24 hK24=>?_
    refine wp_block ?_
    have hlty:k0<b.term.args0.length:=by simpa using h23
    obtain ⟨y,hy⟩:=get_of_lt hlty
    refine PX.G [(.e 6 (.J y))] [] 3 [.q ((k0:Int)=(k0:Int)),.q ((b.term.args0.map encI)[k0]?=some (encI y))] [] [.ix k0 (encI y),.au,.au] [1,3,4,6,10,11,12,13,29,30,31] [1,2] hS hE ⟨rfl,PX.map_get hy,trivial⟩ fun a w hS=>?_
    refine PX.G [(.e 38 (.sc (.bool (!((((b.term.args0.take (k0)).foldl addN ([]:List Int))).contains y)))))] [] 3 [.q (PX.Con Try.prog 71 [(.imm 1 (((b.term.args0.take (k0)).foldl addN ([]:List Int)).map encI)),(.J y)] [] 3 3 (.sc (.bool ((((b.term.args0.take (k0)).foldl addN ([]:List Int))).contains y))) []),.b (PX.lenIs (((b.term.args0.take (k0)).foldl addN ([]:List Int)).length) (((b.term.args0.take (k0)).foldl addN ([]:List Int)).map encI))] [] [.au,.au,.cr [2] (.bool ((((b.term.args0.take (k0)).foldl addN ([]:List Int))).contains y)),.au] [1,3,4,6,10,11,12,13,29,30,31,38] [1,2] hS hE ⟨PX.con_any (con_f71 ((b.term.args0.take (k0)).foldl addN ([]:List Int)) (by have hq:=fold_addN_len (b.term.args0.take k0) ([]:List Int); simp only [List.length_take] at hq; (try simp only [List.length_nil] at hq); omega) y),by simp [PX.lenIs],trivial⟩ fun a w hS=>?_
    refine PX.cond_s (!((((b.term.args0.take (k0)).foldl addN ([]:List Int))).contains y)) hS (by kernel_rfl) (fun h25=>?_) (fun h25=>?_)
    ·skip
     refine PX.G0 [(.e 3 (.own 4 1 ((((b.term.args0.take (k0)).foldl addN ([]:List Int)).map encI:List (List PX.PV)).length+1)))] [(4,.row 3 1 true (((b.term.args0.take (k0)).foldl addN ([]:List Int)).map encI++[[(.J y)]]))] 5 [.b (lenIs (((b.term.args0.take (k0)).foldl addN ([]:List Int)).length) (((b.term.args0.take (k0)).foldl addN ([]:List Int)).map encI)),.b (lenIs 1 ([[(.J y)]])),.b (Nat.ble ((((b.term.args0.take (k0)).foldl addN ([]:List Int)).map encI:List (List PX.PV)).length+1) 1000000000)] [] [.au,.au,.au,.au,.au] [1,3,4,10,11,12,13,29,30,31] [1,4] hS hE ⟨by simp [PX.lenIs],rfl,by rw [Nat.ble_eq]; have hq:=fold_addN_len (b.term.args0.take k0) ([]:List Int); simp only [List.length_take,List.length_map,List.length_cons,List.length_nil] at hq ⊢; omega,trivial⟩ fun a w hS=>?_
     refine hK24 _ _ ?_
     refine PX.G0 [(.e 31 (.sc (.I ((k0+1:Nat):Int))))] [] 5 [.q ((.sc (.I (IntKind.i64.wrap ((k0:Int)+1))):PX.PV)=(.sc (.I ((k0+1:Nat):Int))))] [] [.nm (.sc (.I ((k0+1:Nat):Int))),.au] [1,3,4,10,11,12,13,29,30,31] [1,4] hS hE ⟨PX.nm_int (by rw [IntWalk.i64_in _ (by omega)]; omega),trivial⟩ fun a w hS=>?_
     have hc:(((b.term.args0.take (k0)).foldl addN ([]:List Int)).contains y)=false:=by simpa using h25
     replace hS:=PX.sl [1,3,4,10,11,12,13,29,30,31] (PX.reslot (t:=3) (.own 4 1 (((b.term.args0.take (k0+1)).foldl addN ([]:List Int)).length)) hS rfl (fun _ _ _ _ h=>(show (.own 4 1 ((((b.term.args0.take (k0)).foldl addN ([]:List Int)).map encI:List (List PX.PV)).length+1):PX.PV)=.own 4 1 ((b.term.args0.take (k0+1)).foldl addN ([]:List Int)).length from by rw [add_take hy,addN_new hc]; simp) ▸ h))
     replace hS:=PX.rerow (id:=4) (((b.term.args0.take (k0+1)).foldl addN ([]:List Int)).map encI) hS rfl (by rw [add_take hy,addN_new hc]; simp [encI])
     exact ⟨b.term.args0.length-(k0+1),by omega,k0+1,rfl,by omega,trivial,(PX.cn [(2,4)] _ _ 3 hS hE)⟩
    ·skip
     refine wp_skip ?_
     refine hK24 _ _ ?_
     refine PX.G0 [(.e 31 (.sc (.I ((k0+1:Nat):Int))))] [] 3 [.q ((.sc (.I (IntKind.i64.wrap ((k0:Int)+1))):PX.PV)=(.sc (.I ((k0+1:Nat):Int))))] [] [.nm (.sc (.I ((k0+1:Nat):Int))),.au] [1,3,4,10,11,12,13,29,30,31] [1,2] hS hE ⟨PX.nm_int (by rw [IntWalk.i64_in _ (by omega)]; omega),trivial⟩ fun a w hS=>?_
     have hc:(((b.term.args0.take (k0)).foldl addN ([]:List Int)).contains y)=true:=by simpa using h25
     replace hS:=PX.sl [1,3,4,10,11,12,13,29,30,31] (PX.reslot (t:=3) (.own 2 1 (((b.term.args0.take (k0+1)).foldl addN ([]:List Int)).length)) hS rfl (fun _ _ _ _ h=>(show (.own 2 1 (((b.term.args0.take (k0)).foldl addN ([]:List Int)).length):PX.PV)=.own 2 1 ((b.term.args0.take (k0+1)).foldl addN ([]:List Int)).length from by rw [add_take hy,addN_old hc]) ▸ h))
     replace hS:=PX.rerow (id:=2) (((b.term.args0.take (k0+1)).foldl addN ([]:List Int)).map encI) hS rfl (by rw [add_take hy,addN_old hc])
     exact ⟨b.term.args0.length-(k0+1),by omega,k0+1,rfl,by omega,trivial,(PX.cn [] _ _ 3 hS hE)⟩
   ·skip
    refine wp_exit ?_
    refine hK4 _ _ ?_
    have hqk0:k0=b.term.args0.length:=by have:=le_of_dec h23; omega
    rw [hqk0,List.take_length] at hS
    refine PX.G0 [(.e 4 (.J 1))] [] 3 [] [] [.au,.au,.au] [1,3,4,10,11,12,13] [1,2] hS hE trivial fun a w hS=>?_
    show Code.rounds _ _ _ 2 _ _
    rw [rounds_succ]
    refine wp_seq_k fun K26 hK26=>?_
    refine PX.G [(.e 10 (.ptr 1 2)),(.e 11 (.ptr 1 2)),(.e 12 (.J b.term.kind)),(.e 13 (.sc (.bool (b.term.kind==3)))),(.e 14 (.sc (.bool (b.term.kind==3))))] [] 3 [] [] [.au,.au,.au,.au,.au,.au,.au,.au] [1,3,4,10,11,12,13,14] [1,2] hS hE trivial fun a w hS=>?_
    refine PX.cond_s (b.term.kind==3) hS (by kernel_rfl) (fun h27=>?_) (fun h27=>nomatch (h3.symm.trans h27))
    refine wp_skip ?_
    refine hK26 _ _ ?_
    refine wp_seq_k fun K28 hK28=>?_
    refine wp_block ?_
    refine wp_seq_k fun K29 hK29=>?_
    refine PX.G [(.e 23 (.sc (.bool (decide (b.term.b1<0)))))] [] 3 [] [] [.au,.au,.au,.au,.au,.au,.au] [1,3,4,10,11,12,13,23] [1,2] hS hE trivial fun a w hS=>?_
    refine PX.cond_s (decide (b.term.b1<0)) hS (by kernel_rfl) (fun h30=>?_) (fun h30=>?_)
    ·skip
     refine wp_exit ?_
     refine hK28 _ _ ?_
     refine PX.G0 [(.e 4 (.J 2))] [] 3 [] [] [.au,.au,.au] [1,3,4,10,11,12,13] [1,2] hS hE trivial fun a w hS=>?_
     show Code.rounds _ _ _ 1 _ _
     rw [rounds_succ]
     refine wp_seq_k fun K31 hK31=>?_
     refine PX.G [(.e 14 (.sc (.bool false)))] [] 3 [] [(2,false)] [.au,.au,.au,.dd,.dd,.dd,.dd,.au] [1,3,4,14] [1,2] hS hE trivial fun a w hS=>?_
     refine PX.cond_s false hS (by kernel_rfl) (fun h32=>nomatch h32) (fun h32=>?_)
     refine wp_exit ?_
     refine hK1 _ _ ?_
     refine PX.G [(.e 2 (.own 2 1 ((b.term.args0.foldl addN ([]:List Int)).length)))] [] 3 [] [] [.au,.au] [2] [2] hS hE trivial fun a w hS=>?_
     replace hS:=PX.fz 2 [(.e 2 (.imm 1 ((b.term.args0.foldl addN ([]:List Int)).map encI)))] [] [2] [] [.b (PX.lenIs ((b.term.args0.foldl addN ([]:List Int)).length) ((b.term.args0.foldl addN ([]:List Int)).map encI))] hS ⟨(by simp [PX.lenIs]),trivial⟩
     refine wp_ret ?_
     rw [show (.imm 1 ((savedD b.term).map encI))=((.imm 1 ((b.term.args0.foldl addN ([]:List Int)).map encI)):PX.PV) from congrArg (fun l=>PX.PV.imm 1 (l.map encI)) (show savedD b.term=(b.term.args0.foldl addN ([]:List Int)) from by unfold savedD; rw [if_pos (show b.term.kind=3 by simpa using h3),if_neg (by have:=of_decide_eq_true h30; omega),if_pos (by have:=of_decide_eq_false h6; omega)])]
     exact PX.rt hS hE (.inl rfl)
    ·skip
     refine wp_skip ?_
     refine hK29 _ _ ?_
     refine PX.G [(.e 29 (.imm 1 (b.term.args1.map encI))),(.e 30 (.sc (.I (b.term.args1.length:Int)))),(.e 31 (.J 0))] [] 3 [.q ((.sc (.I (((b.term.args1.map encI).length:Nat):Int)):PX.PV)=(.sc (.I (b.term.args1.length:Int))))] [] [.au,.au,.au,.au,.au,.au,.nm (.sc (.I (b.term.args1.length:Int))),.au] [1,3,4,10,11,12,13,29,30,31] [1,2] hS hE ⟨PX.nm_len (by simp),trivial⟩ fun a w hS=>?_
     refine wp_block ?_
     have hA1:=fold_addN_len b.term.args1 (b.term.args0.foldl addN ([]:List Int)); (try simp only [List.length_nil,Nat.zero_add] at hA1)
     replace hS:=PX.sl [1,3,4,10,11,12,13,29,30,31] (PX.reslot (t:=3) (.own 2 1 (((b.term.args1.take (0)).foldl addN (b.term.args0.foldl addN ([]:List Int))).length)) hS rfl (fun _ _ _ _ h=>(show (.own 2 1 ((b.term.args0.foldl addN ([]:List Int)).length):PX.PV)=.own 2 1 ((b.term.args1.take (0)).foldl addN (b.term.args0.foldl addN ([]:List Int))).length from by simp) ▸ h))
     replace hS:=PX.rerow (id:=2) (((b.term.args1.take (0)).foldl addN (b.term.args0.foldl addN ([]:List Int))).map encI) hS rfl (by simp)
     refine wp_loop_ghost (fun m33 a' w'=>∃ k1:Nat,m33=b.term.args1.length-k1∧k1≤b.term.args1.length∧True∧PX.Sat E 45 [(.e 1 (.ptr 1 0)),(.e 3 (.own 2 1 (((b.term.args1.take (k1)).foldl addN (b.term.args0.foldl addN ([]:List Int))).length))),(.e 4 (.J 1)),(.e 10 (.ptr 1 2)),(.e 11 (.ptr 1 2)),(.e 12 (.J b.term.kind)),(.e 13 (.sc (.bool (b.term.kind==3)))),(.e 29 (.imm 1 (b.term.args1.map encI))),(.e 30 (.sc (.I (b.term.args1.length:Int)))),(.e 31 (.sc (.I (k1:Int))))] [(1,.box 62 (encB b)),(2,.row 3 1 true (((b.term.args1.take (k1)).foldl addN (b.term.args0.foldl addN ([]:List Int))).map encI))] 3 a' w') (b.term.args1.length-0) ⟨0,rfl,Nat.zero_le _,trivial,(PX.cn [] _ _ 3 hS hE)⟩ ?_
     clear hS; rintro m33 a w ⟨k1,hm33,hlek1,hIk1,hS⟩
     refine PX.G [(.e 32 (.sc (.bool (decide ((k1:Int)<(b.term.args1.length:Int))))))] [] 3 [] [] [.au] [1,3,4,10,11,12,13,29,30,31,32] [1,2] hS hE trivial fun a w hS=>?_
     refine wp_seq_k fun K34 hK34=>?_
     refine PX.cond_s (decide ((k1:Int)<(b.term.args1.length:Int))) hS (by kernel_rfl) (fun h35=>?_) (fun h35=>?_)
     ·skip
      refine wp_skip ?_
      refine hK34 _ _ ?_
      refine wp_seq_k fun K36 hK36=>?_
      refine wp_block ?_
      have hlty:k1<b.term.args1.length:=by simpa using h35
      obtain ⟨y,hy⟩:=get_of_lt hlty
      refine PX.G [(.e 6 (.J y))] [] 3 [.q ((k1:Int)=(k1:Int)),.q ((b.term.args1.map encI)[k1]?=some (encI y))] [] [.ix k1 (encI y),.au,.au] [1,3,4,6,10,11,12,13,29,30,31] [1,2] hS hE ⟨rfl,PX.map_get hy,trivial⟩ fun a w hS=>?_
      refine PX.G [(.e 38 (.sc (.bool (!((((b.term.args1.take (k1)).foldl addN (b.term.args0.foldl addN ([]:List Int)))).contains y)))))] [] 3 [.q (PX.Con Try.prog 71 [(.imm 1 (((b.term.args1.take (k1)).foldl addN (b.term.args0.foldl addN ([]:List Int))).map encI)),(.J y)] [] 3 3 (.sc (.bool ((((b.term.args1.take (k1)).foldl addN (b.term.args0.foldl addN ([]:List Int)))).contains y))) []),.b (PX.lenIs (((b.term.args1.take (k1)).foldl addN (b.term.args0.foldl addN ([]:List Int))).length) (((b.term.args1.take (k1)).foldl addN (b.term.args0.foldl addN ([]:List Int))).map encI))] [] [.au,.au,.cr [2] (.bool ((((b.term.args1.take (k1)).foldl addN (b.term.args0.foldl addN ([]:List Int)))).contains y)),.au] [1,3,4,6,10,11,12,13,29,30,31,38] [1,2] hS hE ⟨PX.con_any (con_f71 ((b.term.args1.take (k1)).foldl addN (b.term.args0.foldl addN ([]:List Int))) (by have hq:=fold_addN_len (b.term.args1.take k1) (b.term.args0.foldl addN ([]:List Int)); simp only [List.length_take] at hq; (try simp only [List.length_nil] at hq); omega) y),by simp [PX.lenIs],trivial⟩ fun a w hS=>?_
      refine PX.cond_s (!((((b.term.args1.take (k1)).foldl addN (b.term.args0.foldl addN ([]:List Int)))).contains y)) hS (by kernel_rfl) (fun h37=>?_) (fun h37=>?_)
      ·skip
       refine PX.G0 [(.e 3 (.own 4 1 ((((b.term.args1.take (k1)).foldl addN (b.term.args0.foldl addN ([]:List Int))).map encI:List (List PX.PV)).length+1)))] [(4,.row 3 1 true (((b.term.args1.take (k1)).foldl addN (b.term.args0.foldl addN ([]:List Int))).map encI++[[(.J y)]]))] 5 [.b (lenIs (((b.term.args1.take (k1)).foldl addN (b.term.args0.foldl addN ([]:List Int))).length) (((b.term.args1.take (k1)).foldl addN (b.term.args0.foldl addN ([]:List Int))).map encI)),.b (lenIs 1 ([[(.J y)]])),.b (Nat.ble ((((b.term.args1.take (k1)).foldl addN (b.term.args0.foldl addN ([]:List Int))).map encI:List (List PX.PV)).length+1) 1000000000)] [] [.au,.au,.au,.au,.au] [1,3,4,10,11,12,13,29,30,31] [1,4] hS hE ⟨by simp [PX.lenIs],rfl,by rw [Nat.ble_eq]; have hq:=fold_addN_len (b.term.args1.take k1) (b.term.args0.foldl addN ([]:List Int)); simp only [List.length_take,List.length_map,List.length_cons,List.length_nil] at hq ⊢; omega,trivial⟩ fun a w hS=>?_
       refine hK36 _ _ ?_
       refine PX.G0 [(.e 31 (.sc (.I ((k1+1:Nat):Int))))] [] 5 [.q ((.sc (.I (IntKind.i64.wrap ((k1:Int)+1))):PX.PV)=(.sc (.I ((k1+1:Nat):Int))))] [] [.nm (.sc (.I ((k1+1:Nat):Int))),.au] [1,3,4,10,11,12,13,29,30,31] [1,4] hS hE ⟨PX.nm_int (by rw [IntWalk.i64_in _ (by omega)]; omega),trivial⟩ fun a w hS=>?_
       have hc:(((b.term.args1.take (k1)).foldl addN (b.term.args0.foldl addN ([]:List Int))).contains y)=false:=by simpa using h37
       replace hS:=PX.sl [1,3,4,10,11,12,13,29,30,31] (PX.reslot (t:=3) (.own 4 1 (((b.term.args1.take (k1+1)).foldl addN (b.term.args0.foldl addN ([]:List Int))).length)) hS rfl (fun _ _ _ _ h=>(show (.own 4 1 ((((b.term.args1.take (k1)).foldl addN (b.term.args0.foldl addN ([]:List Int))).map encI:List (List PX.PV)).length+1):PX.PV)=.own 4 1 ((b.term.args1.take (k1+1)).foldl addN (b.term.args0.foldl addN ([]:List Int))).length from by rw [add_take hy,addN_new hc]; simp) ▸ h))
       replace hS:=PX.rerow (id:=4) (((b.term.args1.take (k1+1)).foldl addN (b.term.args0.foldl addN ([]:List Int))).map encI) hS rfl (by rw [add_take hy,addN_new hc]; simp [encI])
       exact ⟨b.term.args1.length-(k1+1),by omega,k1+1,rfl,by omega,trivial,(PX.cn [(2,4)] _ _ 3 hS hE)⟩
      ·skip
       refine wp_skip ?_
       refine hK36 _ _ ?_
       refine PX.G0 [(.e 31 (.sc (.I ((k1+1:Nat):Int))))] [] 3 [.q ((.sc (.I (IntKind.i64.wrap ((k1:Int)+1))):PX.PV)=(.sc (.I ((k1+1:Nat):Int))))] [] [.nm (.sc (.I ((k1+1:Nat):Int))),.au] [1,3,4,10,11,12,13,29,30,31] [1,2] hS hE ⟨PX.nm_int (by rw [IntWalk.i64_in _ (by omega)]; omega),trivial⟩ fun a w hS=>?_
       have hc:(((b.term.args1.take (k1)).foldl addN (b.term.args0.foldl addN ([]:List Int))).contains y)=true:=by simpa using h37
       replace hS:=PX.sl [1,3,4,10,11,12,13,29,30,31] (PX.reslot (t:=3) (.own 2 1 (((b.term.args1.take (k1+1)).foldl addN (b.term.args0.foldl addN ([]:List Int))).length)) hS rfl (fun _ _ _ _ h=>(show (.own 2 1 (((b.term.args1.take (k1)).foldl addN (b.term.args0.foldl addN ([]:List Int))).length):PX.PV)=.own 2 1 ((b.term.args1.take (k1+1)).foldl addN (b.term.args0.foldl addN ([]:List Int))).length from by rw [add_take hy,addN_old hc]) ▸ h))
       replace hS:=PX.rerow (id:=2) (((b.term.args1.take (k1+1)).foldl addN (b.term.args0.foldl addN ([]:List Int))).map encI) hS rfl (by rw [add_take hy,addN_old hc])
       exact ⟨b.term.args1.length-(k1+1),by omega,k1+1,rfl,by omega,trivial,(PX.cn [] _ _ 3 hS hE)⟩
     ·skip
      refine wp_exit ?_
      refine hK28 _ _ ?_
      have hqk1:k1=b.term.args1.length:=by have:=le_of_dec h35; omega
      rw [hqk1,List.take_length] at hS
      refine PX.G0 [(.e 4 (.J 2))] [] 3 [] [] [.au,.au,.au] [1,3,4,10,11,12,13] [1,2] hS hE trivial fun a w hS=>?_
      show Code.rounds _ _ _ 1 _ _
      rw [rounds_succ]
      refine wp_seq_k fun K38 hK38=>?_
      refine PX.G [(.e 14 (.sc (.bool false)))] [] 3 [] [(2,false)] [.au,.au,.au,.dd,.dd,.dd,.dd,.au] [1,3,4,14] [1,2] hS hE trivial fun a w hS=>?_
      refine PX.cond_s false hS (by kernel_rfl) (fun h39=>nomatch h39) (fun h39=>?_)
      refine wp_exit ?_
      refine hK1 _ _ ?_
      refine PX.G [(.e 2 (.own 2 1 ((b.term.args1.foldl addN (b.term.args0.foldl addN ([]:List Int))).length)))] [] 3 [] [] [.au,.au] [2] [2] hS hE trivial fun a w hS=>?_
      replace hS:=PX.fz 2 [(.e 2 (.imm 1 ((b.term.args1.foldl addN (b.term.args0.foldl addN ([]:List Int))).map encI)))] [] [2] [] [.b (PX.lenIs ((b.term.args1.foldl addN (b.term.args0.foldl addN ([]:List Int))).length) ((b.term.args1.foldl addN (b.term.args0.foldl addN ([]:List Int))).map encI))] hS ⟨(by simp [PX.lenIs]),trivial⟩
      refine wp_ret ?_
      rw [show (.imm 1 ((savedD b.term).map encI))=((.imm 1 ((b.term.args1.foldl addN (b.term.args0.foldl addN ([]:List Int))).map encI)):PX.PV) from congrArg (fun l=>PX.PV.imm 1 (l.map encI)) (show savedD b.term=(b.term.args1.foldl addN (b.term.args0.foldl addN ([]:List Int))) from by unfold savedD; rw [if_pos (show b.term.kind=3 by simpa using h3),if_pos (by have:=of_decide_eq_false h30; omega),if_pos (by have:=of_decide_eq_false h6; omega)])]
      exact PX.rt hS hE (.inl rfl)
 ·skip
  refine wp_exit ?_
  refine hK1 _ _ ?_
  refine PX.G [(.e 2 (.own 2 1 0))] [] 3 [] [] [.au,.au] [2] [2] hS hE trivial fun a w hS=>?_
  replace hS:=PX.fz 2 [(.e 2 (.imm 1 ([])))] [] [2] [] [.b (PX.lenIs 0 ([]))] hS ⟨(by simp [PX.lenIs]),trivial⟩
  refine wp_ret ?_
  rw [show (.imm 1 ((savedD b.term).map encI))=((.imm 1 ([])):PX.PV) from congrArg (fun l=>PX.PV.imm 1 (l.map encI)) (show savedD b.term=[] from by unfold savedD; rw [if_neg (show ¬ b.term.kind=3 by simpa using h3)])]
  exact PX.rt hS hE (.inl rfl)

set_option maxHeartbeats 1000000 in
theorem con_f146 (t:TermD) (h1:t.args.length≤1000000) (h2:t.args0.length≤1000000) (h3:t.args1.length≤1000000):PX.Con Try.prog 146 [(.agg [(.J t.kind),(.J t.a),(.J t.n),(.imm 1 (t.args.map encI)),(.J t.b0),(.imm 1 (t.args0.map encI)),(.J t.b1),(.imm 1 (t.args1.map encI))])] [] 1 100000 (.imm 1 ((endsR t).map encI)) []:=by
 refine PX.con_intro [(.agg [(.J t.kind),(.J t.a),(.J t.n),(.imm 1 (t.args.map encI)),(.J t.b0),(.imm 1 (t.args0.map encI)),(.J t.b1),(.imm 1 (t.args1.map encI))])] 39 Try.func146 rfl rfl (by kernel_rfl) (by kernel_rfl) ?_
 intro E a hE hS
 generalize E.w0=w at hS ⊢
 have mix:=mixed
 have hel:=enA_len t
 refine PX.G [(.e 1 (.ptr 1 0))] [(1,.box 60 [(.J t.kind),(.J t.a),(.J t.n),(.imm 1 (t.args.map encI)),(.J t.b0),(.imm 1 (t.args0.map encI)),(.J t.b1),(.imm 1 (t.args1.map encI))])] 2 [] [] [.au,.au] [1] [1] hS hE trivial fun a w hS=>?_
 refine PX.G [(.e 3 (.own 3 1 (0+(t.args.map encI).length)))] [(3,.row 3 1 true (t.args.map encI))] 4 [.b (lenIs 0 ([])),.b true,.b (Nat.ble (0+(t.args.map encI).length) 1000000000)] [] [.au,.au,.au,.au,.au] [1,3] [1,3] hS hE ⟨rfl,rfl,by rw [Nat.ble_eq]; simp; omega,trivial⟩ fun a w hS=>?_
 refine PX.seq_cut (E:=E) (N:=39) (T:=[(.e 1 (.ptr 1 0)),(.e 3 (.own 3 1 ((enA t).length)))]) (H:=[(1,.box 60 [(.J t.kind),(.J t.a),(.J t.n),(.imm 1 (t.args.map encI)),(.J t.b0),(.imm 1 (t.args0.map encI)),(.J t.b1),(.imm 1 (t.args1.map encI))]),(3,.row 3 1 true ((enA t).map encI))]) (nx:=4) ?_ ?_
 ·skip
  refine PX.G [(.e 21 (.sc (.bool (((t.kind==2)||(t.kind==4))||(t.kind==5)))))] [] 4 [] [(3,(t.kind==2)),(8,((t.kind==2)||(t.kind==4)))] [.au,.au,.au,.au,.au,.au,.au,.pk,.au,.au,.au,.au,.pk] [1,3,21] [1,3] hS hE trivial fun a w hS=>?_
  refine PX.cond_s (((t.kind==2)||(t.kind==4))||(t.kind==5)) hS (by kernel_rfl) (fun h1=>?_) (fun h1=>?_)
  ·skip
   refine PX.G0 [(.e 3 (.own 5 1 ((t.args.map encI:List (List PX.PV)).length+1)))] [(5,.row 3 1 true (t.args.map encI++[[(.J t.a)]]))] 6 [.b (lenIs (0+(t.args.map encI).length) (t.args.map encI)),.b (lenIs 1 ([[(.J t.a)]])),.b (Nat.ble ((t.args.map encI:List (List PX.PV)).length+1) 1000000000)] [] [.au,.au,.au,.au,.au,.au] [1,3] [1,5] hS hE ⟨by simp [PX.lenIs] <;> omega,rfl,by rw [Nat.ble_eq]; simp; omega,trivial⟩ fun a w hS=>?_
   replace hS:=PX.sl [1,3] (PX.reslot (t:=3) (.own 5 1 ((enA t).length)) hS rfl (fun _ _ _ _ h=>(show (.own 5 1 ((t.args.map encI:List (List PX.PV)).length+1):PX.PV)=.own 5 1 (enA t).length from by unfold enA; rw [if_pos (show t.kind=2∨t.kind=4∨t.kind=5 by simpa [or_assoc] using h1)]; simp) ▸ h))
   replace hS:=PX.rerow (id:=5) ((enA t).map encI) hS rfl (by unfold enA; rw [if_pos (show t.kind=2∨t.kind=4∨t.kind=5 by simpa [or_assoc] using h1)]; simp [encI])
   exact (PX.cn [(3,5)] _ _ 4 hS hE)
  ·skip
   refine wp_skip ?_
   replace hS:=PX.sl [1,3,21] (PX.reslot (t:=3) (.own 3 1 ((enA t).length)) hS rfl (fun _ _ _ _ h=>(show (.own 3 1 (0+(t.args.map encI).length):PX.PV)=.own 3 1 (enA t).length from by unfold enA; rw [if_neg (show ¬ (t.kind=2∨t.kind=4∨t.kind=5) by have:=h1; simp at this; omega)]; simp) ▸ h))
   replace hS:=PX.rerow (id:=3) ((enA t).map encI) hS rfl (by unfold enA; rw [if_neg (show ¬ (t.kind=2∨t.kind=4∨t.kind=5) by have:=h1; simp at this; omega)]; simp [encI])
   replace hS:=PX.sl [1,3] hS
   exact (PX.cn [] _ _ 4 hS hE)
 clear hS; intro a w hS
 refine wp_seq_k fun K2 hK2=>?_
 refine PX.G [(.e 4 (.J 0))] [] 4 [] [] [.au] [1,3,4] [1,3] hS hE trivial fun a w hS=>?_
 refine wp_block ?_
 refine wp_loop_rounds 3 ?_
 rw [rounds_succ]
 refine wp_seq_k fun K3 hK3=>?_
 refine PX.G [(.e 28 (.sc (.bool true)))] [] 4 [] [] [.au,.au] [1,3,4,28] [1,3] hS hE trivial fun a w hS=>?_
 refine PX.cond_s true hS (by kernel_rfl) (fun h4=>?_) (fun h4=>nomatch h4)
 refine wp_skip ?_
 refine hK3 _ _ ?_
 refine wp_seq_k fun K5 hK5=>?_
 refine wp_block ?_
 refine PX.G0 [(.e 3 (.own 4 1 (((enA t).map encI:List (List PX.PV)).length+(t.args0.map encI).length)))] [(4,.row 3 1 true ((enA t).map encI++t.args0.map encI))] 5 [.b (lenIs ((enA t).length) ((enA t).map encI)),.b true,.b (Nat.ble (((enA t).map encI:List (List PX.PV)).length+(t.args0.map encI).length) 1000000000)] [] [.au,.au,.au,.au,.au,.au,.au,.au] [1,3,4] [1,4] hS hE ⟨by simp [PX.lenIs] <;> omega,rfl,by rw [Nat.ble_eq]; simp; omega,trivial⟩ fun a w hS=>?_
 refine hK5 _ _ ?_
 refine PX.G0 [(.e 4 (.J 1))] [] 5 [] [] [.au,.au,.au] [1,3,4] [1,4] hS hE trivial fun a w hS=>?_
 show Code.rounds _ _ _ 2 _ _
 rw [rounds_succ]
 refine wp_seq_k fun K6 hK6=>?_
 refine PX.G [(.e 28 (.sc (.bool true)))] [] 5 [] [] [.au,.au] [1,3,4,28] [1,4] hS hE trivial fun a w hS=>?_
 refine PX.cond_s true hS (by kernel_rfl) (fun h7=>?_) (fun h7=>nomatch h7)
 refine wp_skip ?_
 refine hK6 _ _ ?_
 refine wp_seq_k fun K8 hK8=>?_
 refine wp_block ?_
 refine PX.G0 [(.e 3 (.own 5 1 ((((enA t).map encI++t.args0.map encI):List (List PX.PV)).length+(t.args1.map encI).length)))] [(5,.row 3 1 true (((enA t).map encI++t.args0.map encI)++t.args1.map encI))] 6 [.b (lenIs (((enA t).map encI:List (List PX.PV)).length+(t.args0.map encI).length) ((enA t).map encI++t.args0.map encI)),.b true,.b (Nat.ble ((((enA t).map encI++t.args0.map encI):List (List PX.PV)).length+(t.args1.map encI).length) 1000000000)] [] [.au,.au,.au,.au,.au,.au,.au,.au] [1,3,4] [1,5] hS hE ⟨by simp [PX.lenIs] <;> omega,rfl,by rw [Nat.ble_eq]; simp; omega,trivial⟩ fun a w hS=>?_
 refine hK8 _ _ ?_
 refine PX.G0 [(.e 4 (.J 2))] [] 6 [] [] [.au,.au,.au] [1,3,4] [1,5] hS hE trivial fun a w hS=>?_
 show Code.rounds _ _ _ 1 _ _
 rw [rounds_succ]
 refine wp_seq_k fun K9 hK9=>?_
 refine PX.G [(.e 28 (.sc (.bool false)))] [] 6 [] [] [.au,.au] [1,3,4,28] [1,5] hS hE trivial fun a w hS=>?_
 refine PX.cond_s false hS (by kernel_rfl) (fun h10=>nomatch h10) (fun h10=>?_)
 refine wp_exit ?_
 refine hK2 _ _ ?_
 refine PX.G [(.e 2 (.own 5 1 ((((enA t).map encI++t.args0.map encI):List (List PX.PV)).length+(t.args1.map encI).length)))] [] 6 [] [] [.au,.au] [2] [5] hS hE trivial fun a w hS=>?_
 replace hS:=PX.fz 5 [(.e 2 (.imm 1 (((enA t).map encI++t.args0.map encI)++t.args1.map encI)))] [] [2] [] [.b (PX.lenIs ((((enA t).map encI++t.args0.map encI):List (List PX.PV)).length+(t.args1.map encI).length) (((enA t).map encI++t.args0.map encI)++t.args1.map encI))] hS ⟨(by simp [PX.lenIs] <;> omega),trivial⟩
 refine wp_ret ?_
 rw [show (.imm 1 ((endsR t).map encI))=((.imm 1 (((enA t).map encI++t.args0.map encI)++t.args1.map encI)):PX.PV) from by show (.imm 1 ((enA t++t.args0++t.args1).map encI):PX.PV)=_; simp]
 exact PX.rt hS hE (.inl rfl)
end Go.Proofs.Ytlkcidmmpeebeaa

/- Proved: the document's Current -/
namespace Go.Proofs.Ytlkcidmmpeebeaa
open Go.RowKit Go.PX
set_option maxRecDepth 100000
def zO:OpD:=⟨0,0,0,0,0,0,0,0,0,0,0⟩
def gO (l:List OpD) (i:Nat):OpD:=(l[i]?).getD zO
theorem gO_get {l:List OpD} {i:Nat} (h:i<l.length):l[i]?=some (gO l i):=by
 obtain ⟨y,hy⟩:=get_of_lt h
 rw [hy]; unfold gO; rw [hy]; rfl
def curAt (l:List OpD) (o:OpD):Nat:=((List.range l.length).find? fun i=>!beforeD (gO l i) o).getD l.length
def curIns (l:List OpD) (o:OpD):List OpD :=
 l.take (curAt l o)++[o]++(if (decide (((curAt l o:Nat):Int)<(l.length:Int))&&!beforeD o (gO l (curAt l o)))=true then l.drop (curAt l o+1) else l.drop (curAt l o))
def curStep (l:List OpD) (o:OpD):List OpD:=if o.kind=21 then curIns l o else l
def curD (ops:List OpD):List OpD:=ops.foldl curStep []
theorem curD_succ {l:List OpD} {k:Nat} {y:OpD} (hy:l[k]?=some y):curD (l.take (k+1))=curStep (curD (l.take k)) y:=by
 unfold curD; rw [List.take_add_one,hy]; simp [List.foldl_append]
theorem curIns_len (l:List OpD) (o:OpD):(curIns l o).length≤l.length+1:=by
 unfold curIns
 split <;> simp <;> omega
theorem curStep_len (l:List OpD) (o:OpD):(curStep l o).length≤l.length+1:=by
 unfold curStep; split
 ·exact curIns_len l o
 ·omega
theorem curD_len (ops:List OpD):(curD ops).length≤ops.length:=by
 have h:∀ (xs:List OpD) (l:List OpD),(xs.foldl curStep l).length≤l.length+xs.length:=by
  intro xs; induction xs with
  | nil=>intro l; simp
  | cons x xs ih=>intro l; rw [List.foldl_cons,List.length_cons]; have:=ih (curStep l x); have:=curStep_len l x; omega
 have:=h ops []
 unfold curD; simpa using this
theorem curAt_eq {l:List OpD} {o:OpD} {j:Nat} (hj:j≤l.length) (h:∀ i,i<j→beforeD (gO l i) o=true) (he:j<l.length→beforeD (gO l j) o=false):curAt l o=j:=by
 unfold curAt
 rcases Nat.lt_or_ge j l.length with q | q
 ·rw [PX.find_range q (fun i hi=>by rw [h i hi]; rfl) (by rw [he q]; rfl)]; rfl
 ·obtain rfl:j=l.length:=by omega
  rw [PX.find_range_none fun i hi=>by rw [h i hi] <;> rfl]; rfl
def uA (y:OpD):List Int:=if R.usesA y.kind=true then [y.a] else []
def uB (y:OpD):List Int:=if R.usesB y.kind=true then [y.b] else []
theorem uA_yes {y:OpD} (h:R.usesA y.kind=true):uA y=[y.a]:=if_pos h
theorem uA_no {y:OpD} (h:R.usesA y.kind=false):uA y=[]:=if_neg (by rw [h]; simp)
theorem uB_yes {y:OpD} (h:R.usesB y.kind=true):uB y=[y.b]:=if_pos h
theorem uB_no {y:OpD} (h:R.usesB y.kind=false):uB y=[]:=if_neg (by rw [h]; simp)
theorem uA_len (y:OpD):(uA y).length≤1:=by unfold uA; split <;> simp
theorem uB_len (y:OpD):(uB y).length≤1:=by unfold uB; split <;> simp
/-- the values that are known ahead of the k-th operation -/
def aheadD (b:BlockD) (k:Nat):List Int:=R.upto b.params++dsts (b.ops.take k)
def usesR (b:BlockD) (k:Nat) (keep:Bool) (y:OpD):List Int :=
 uA y++uB y ++
 (if (keep&&(y.kind==19||y.kind==20))=true then ((curD (b.ops.take k)).filter fun x=>x.sk==2&&(aheadD b k).contains x.sv).map (·.sv) else [])
def setAll (l:List Int) (k:Nat) (vs:List Int):List Int:=vs.foldl (fun l v=>l.set v.toNat (k:Int)) l
theorem setAll_len (k:Nat):∀ (vs:List Int) (l:List Int),(setAll l k vs).length=l.length
 | [],l=>rfl
 | v::vs,l=>by unfold setAll; rw [List.foldl_cons]; exact (setAll_len k vs _).trans (by simp)
def lastOp (b:BlockD) (keep:Bool) (l:List Int) (p:OpD × Nat):List Int:=setAll (defI l p.1 p.2) p.2 (usesR b p.2 keep p.1)
def lastK (keep:Bool) (b:BlockD) (k:Nat):List Int:=(b.ops.take k).zipIdx.foldl (lastOp b keep) (List.replicate (topD b+1).toNat (-1))
def lastR (keep:Bool) (b:BlockD):List Int:=setAll (lastK keep b b.ops.length) b.ops.length (endsR b.term)
theorem lastK_len (keep:Bool) (b:BlockD) (k:Nat):(lastK keep b k).length=(topD b+1).toNat:=by
 unfold lastK; rw [fold_len (f:=fun l (p:OpD × Nat)=>lastOp b keep l p) (fun l p=>by unfold lastOp; rw [setAll_len,defI_len])]; simp
theorem lastR_len (keep:Bool) (b:BlockD):(lastR keep b).length=(topD b+1).toNat:=by unfold lastR; rw [setAll_len,lastK_len]

set_option maxHeartbeats 1000000 in
theorem con_f132g (l:List OpD) (hl:l.length≤1000000):PX.Con Try.prog 132 [(.imm 11 (l.map encO))] [] 1 100000 (.imm 11 ((curD l).map encO)) []:=by
 refine PX.con_intro [(.imm 11 (l.map encO))] 65 Try.func132 rfl rfl (by kernel_rfl) (by kernel_rfl) ?_
 intro E a hE hS
 generalize E.w0=w at hS ⊢
 have mix:=mixed
 refine PX.G [] [] 1 [] [] [.au] [0] [] hS hE trivial fun a w hS=>?_
 refine PX.G [(.e 3 (.sc (.slice none 0 0)))] [] 1 [] [] [.au] [0,3] [] hS hE trivial fun a w hS=>?_
 refine wp_seq_k fun K1 hK1=>?_
 refine PX.G [(.e 9 (.imm 11 (l.map encO))),(.e 10 (.sc (.I (l.length:Int)))),(.e 11 (.J 0))] [] 1 [.q ((.sc (.I (((l.map encO).length:Nat):Int)):PX.PV)=(.sc (.I (l.length:Int))))] [] [.au,.nm (.sc (.I (l.length:Int))),.au] [3,9,10,11] [] hS hE ⟨PX.nm_len (by simp),trivial⟩ fun a w hS=>?_
 refine wp_block ?_
 replace hS:=PX.sl [3,9,10,11] (PX.reslot (t:=3) (.own 1 11 0) (PX.newrow 74 11 hS (hE.le (by decide))) rfl (PX.nil_own 1 11))
 replace hS:=PX.fz 1 [(.e 3 (.imm 11 ([])))] [] [3,9,10,11] [] [.b (PX.lenIs 0 ([]))] hS ⟨(rfl),trivial⟩
 replace hS:=PX.sl [3,9,10,11] (PX.reslot (t:=3) (.imm 11 ((curD (l.take (0))).map encO)) hS rfl (fun _ _ _ _ h=>(show (.imm 11 []:PX.PV)=.imm 11 ((curD (l.take (0))).map encO) from rfl) ▸ h))
 refine wp_loop_ghost (fun m2 a' w'=>∃ k:Nat,m2=l.length-k∧k≤l.length∧True∧PX.Sat E 65 [(.e 3 (.imm 11 ((curD (l.take (k))).map encO))),(.e 9 (.imm 11 (l.map encO))),(.e 10 (.sc (.I (l.length:Int)))),(.e 11 (.sc (.I (k:Int))))] [] 1 a' w') (l.length-0) ⟨0,rfl,Nat.zero_le _,trivial,(PX.cn [] _ _ 1 hS hE)⟩ ?_
 clear hS; rintro m2 a w ⟨k,hm2,hlek,hIk,hS⟩
 refine PX.G [(.e 12 (.sc (.bool (decide ((k:Int)<(l.length:Int))))))] [] 1 [] [] [.au] [3,9,10,11,12] [] hS hE trivial fun a w hS=>?_
 refine wp_seq_k fun K3 hK3=>?_
 refine PX.cond_s (decide ((k:Int)<(l.length:Int))) hS (by kernel_rfl) (fun h4=>?_) (fun h4=>?_)
 ·skip
  refine wp_skip ?_
  refine hK3 _ _ ?_
  refine wp_seq_k fun K5 hK5=>?_
  refine wp_block ?_
  have hlty:k<l.length:=by simpa using h4
  obtain ⟨y,hy⟩:=get_of_lt hlty
  have hcl:=curD_len (l.take k); rw [List.length_take] at hcl
  refine PX.G [(.e 5 (.ptr 1 0))] [(1,.box 74 (encO y))] 2 [.q ((k:Int)=(k:Int)),.q ((l.map encO)[k]?=some (encO y))] [] [.ix k (encO y),.au,.au,.au] [3,5,9,10,11] [1] hS hE ⟨rfl,PX.map_get hy,trivial⟩ fun a w hS=>?_
  refine wp_seq_k fun K6 hK6=>?_
  refine PX.G [(.e 17 (.sc (.bool (y.kind != 21))))] [] 2 [] [] [.au,.au,.au] [3,5,9,10,11,17] [1] hS hE trivial fun a w hS=>?_
  refine PX.cond_s (y.kind != 21) hS (by kernel_rfl) (fun h7=>?_) (fun h7=>?_)
  ·skip
   refine wp_exit ?_
   refine hK5 _ _ ?_
   refine PX.G0 [(.e 11 (.sc (.I ((k+1:Nat):Int))))] [] 2 [.q ((.sc (.I (IntKind.i64.wrap ((k:Int)+1))):PX.PV)=(.sc (.I ((k+1:Nat):Int))))] [] [.nm (.sc (.I ((k+1:Nat):Int))),.au] [3,9,10,11] [] hS hE ⟨PX.nm_int (by rw [IntWalk.i64_in _ (by omega)]; omega),trivial⟩ fun a w hS=>?_
   replace hS:=PX.sl [3,9,10,11] (PX.reslot (t:=3) (.imm 11 ((curD (l.take (k+1))).map encO)) hS rfl (fun _ _ _ _ h=>(show (.imm 11 ((curD (l.take (k))).map encO):PX.PV)=.imm 11 ((curD (l.take (k+1))).map encO) from by rw [curD_succ hy]; unfold curStep; rw [if_neg (show ¬ y.kind=21 by simpa using h7)]) ▸ h))
   exact ⟨l.length-(k+1),by omega,k+1,rfl,by omega,trivial,(PX.cn [] _ _ 1 hS hE)⟩
  ·skip
   refine wp_skip ?_
   refine hK6 _ _ ?_
   refine PX.G [(.e 6 (.J 0))] [] 2 [] [] [.au] [3,5,6,9,10,11] [1] hS hE trivial fun a w hS=>?_
   refine wp_seq_k fun K8 hK8=>?_
   refine wp_block ?_
   refine wp_loop_ghost (fun m9 a' w'=>∃ j:Nat,m9=(curD (l.take (k))).length-j∧j≤(curD (l.take (k))).length∧(∀ i,i<j→beforeD (gO (curD (l.take (k))) i) y=true)∧PX.Sat E 65 [(.e 3 (.imm 11 ((curD (l.take (k))).map encO))),(.e 5 (.ptr 1 0)),(.e 6 (.sc (.I (j:Int)))),(.e 9 (.imm 11 (l.map encO))),(.e 10 (.sc (.I (l.length:Int)))),(.e 11 (.sc (.I (k:Int))))] [(1,.box 74 (encO y))] 2 a' w') ((curD (l.take (k))).length-0) ⟨0,rfl,Nat.zero_le _,(fun i hi=>by omega),(PX.cn [] _ _ 2 hS hE)⟩ ?_
   clear hS; rintro m9 a w ⟨j,hm9,hlej,hIj,hS⟩
   refine wp_seq_k fun K10 hK10=>?_
   refine PX.D [(.e 29 (.sc (.bool (decide ((j:Int)<(((curD (l.take (k))).length:Nat):Int))&&(beforeD (gO (curD (l.take (k))) j) y)))))] [] 2 [.q ((.sc (.I ((((curD (l.take (k))).map encO).length:Nat):Int)):PX.PV)=(.sc (.I (((curD (l.take (k))).length:Nat):Int)))),.q (SX.pv [(4,decide ((j:Int)<(((curD (l.take (k))).length:Nat):Int)))] [(4,true)]=true→PX.AllOb [.q ((j:Int)=(j:Int)),.q (((curD (l.take (k))).map encO)[j]?=some (encO (gO (curD (l.take (k))) j)))]),.q (SX.pv [(4,decide ((j:Int)<(((curD (l.take (k))).length:Nat):Int)))] [(4,true)]=true→PX.AllOb [.q (PX.Con Try.prog 159 [(.agg [(.sc (.I ((gO (curD (l.take (k))) j).kind))),(.sc (.I ((gO (curD (l.take (k))) j).dst))),(.sc (.I ((gO (curD (l.take (k))) j).a))),(.sc (.I ((gO (curD (l.take (k))) j).b))),(.sc (.I ((gO (curD (l.take (k))) j).n))),(.sc (.I ((gO (curD (l.take (k))) j).ctx))),(.sc (.I ((gO (curD (l.take (k))) j).var))),(.sc (.I ((gO (curD (l.take (k))) j).piece))),(.sc (.I ((gO (curD (l.take (k))) j).sk))),(.sc (.I ((gO (curD (l.take (k))) j).sv))),(.sc (.I ((gO (curD (l.take (k))) j).sa)))]),(.agg (encO y))] [] 2 2 (.sc (.bool (beforeD (gO (curD (l.take (k))) j) y))) [])])] [(4,decide ((j:Int)<(((curD (l.take (k))).length:Nat):Int)))] [.au,.au,.nm (.sc (.I (((curD (l.take (k))).length:Nat):Int))),.au,.au,.au,.au,.ix j (encO (gO (curD (l.take (k))) j)),.au,.au,.cl [] (.sc (.bool (beforeD (gO (curD (l.take (k))) j) y))) [] 2,.pk] [3,5,6,9,10,11,29] [1] hS mixed hE ⟨PX.nm_len (by simp),fun hg=>⟨rfl,PX.map_get (gO_get (by simpa [SX.pv,SX.kv] using hg)),trivial⟩,fun hg=>⟨PX.con_any (con_f159 (gO (curD (l.take (k))) j) y),trivial⟩,trivial⟩ fun a w hS=>?_
   refine PX.cond_s (decide ((j:Int)<(((curD (l.take (k))).length:Nat):Int))&&(beforeD (gO (curD (l.take (k))) j) y)) hS (by kernel_rfl) (fun h11=>?_) (fun h11=>?_)
   ·skip
    refine wp_skip ?_
    refine hK10 _ _ ?_
    refine wp_block ?_
    refine PX.G0 [(.e 6 (.sc (.I ((j+1:Nat):Int))))] [] 2 [.q ((.sc (.I (IntKind.i64.wrap ((j:Int)+1))):PX.PV)=(.sc (.I ((j+1:Nat):Int))))] [] [.au,.nm (.sc (.I ((j+1:Nat):Int))),.au] [3,5,6,9,10,11] [1] hS hE ⟨PX.nm_int (by rw [IntWalk.i64_in _ (by omega)]; omega),trivial⟩ fun a w hS=>?_
    have hjl:j<(curD (l.take (k))).length:=by have hq:=h11; simp at hq; exact hq.1
    exact ⟨(curD (l.take (k))).length-(j+1),by omega,j+1,rfl,by omega,(fun i hi=>if q:i<j then hIj i q else by obtain rfl:i=j:=(by omega); have hq:=h11; simp at hq; exact hq.2),(PX.cn [] _ _ 2 hS hE)⟩
   ·skip
    refine wp_exit ?_
    refine hK8 _ _ ?_
    have hat:curAt (curD (l.take (k))) y=j:=curAt_eq hlej hIj (fun q=>by have hq:=h11; rw [show decide ((j:Int)<(((curD (l.take (k))).length:Nat):Int))=true by simpa using q] at hq; simpa using hq)
    refine PX.D [(.e 7 (.sc (.bool (decide ((j:Int)<(((curD (l.take (k))).length:Nat):Int))&&(!(beforeD y (gO (curD (l.take (k))) j)))))))] [] 2 [.q ((.sc (.I ((((curD (l.take (k))).map encO).length:Nat):Int)):PX.PV)=(.sc (.I (((curD (l.take (k))).length:Nat):Int)))),.q (SX.pv [(4,decide ((j:Int)<(((curD (l.take (k))).length:Nat):Int)))] [(4,true)]=true→PX.AllOb [.q ((j:Int)=(j:Int)),.q (((curD (l.take (k))).map encO)[j]?=some (encO (gO (curD (l.take (k))) j)))]),.q (SX.pv [(4,decide ((j:Int)<(((curD (l.take (k))).length:Nat):Int)))] [(4,true)]=true→PX.AllOb [.q (PX.Con Try.prog 159 [(.agg (encO y)),(.agg [(.sc (.I ((gO (curD (l.take (k))) j).kind))),(.sc (.I ((gO (curD (l.take (k))) j).dst))),(.sc (.I ((gO (curD (l.take (k))) j).a))),(.sc (.I ((gO (curD (l.take (k))) j).b))),(.sc (.I ((gO (curD (l.take (k))) j).n))),(.sc (.I ((gO (curD (l.take (k))) j).ctx))),(.sc (.I ((gO (curD (l.take (k))) j).var))),(.sc (.I ((gO (curD (l.take (k))) j).piece))),(.sc (.I ((gO (curD (l.take (k))) j).sk))),(.sc (.I ((gO (curD (l.take (k))) j).sv))),(.sc (.I ((gO (curD (l.take (k))) j).sa)))])] [] 2 2 (.sc (.bool (beforeD y (gO (curD (l.take (k))) j)))) [])])] [(4,decide ((j:Int)<(((curD (l.take (k))).length:Nat):Int)))] [.au,.au,.nm (.sc (.I (((curD (l.take (k))).length:Nat):Int))),.au,.au,.au,.au,.au,.ix j (encO (gO (curD (l.take (k))) j)),.au,.cl [] (.sc (.bool (beforeD y (gO (curD (l.take (k))) j)))) [] 2,.au,.pk,.au] [3,5,6,7,9,10,11] [1] hS mixed hE ⟨PX.nm_len (by simp),fun hg=>⟨rfl,PX.map_get (gO_get (by simpa [SX.pv,SX.kv] using hg)),trivial⟩,fun hg=>⟨PX.con_any (con_f159 y (gO (curD (l.take (k))) j)),trivial⟩,trivial⟩ fun a w hS=>?_
    refine PX.G [(.e 8 (.imm 11 (((curD (l.take (k))).drop j).map encO)))] [] 2 [.q ((j:Nat)≤(curD (l.take (k))).length),.q ((curD (l.take (k))).length≤((curD (l.take (k))).map encO).length),.q ((((curD (l.take (k))).map encO).take ((curD (l.take (k))).length)).drop j=((curD (l.take (k))).drop j).map encO),.q ((j:Int)=(j:Int)),.q (((curD (l.take (k))).length:Nat)=((curD (l.take (k))).map encO).length)] [] [.au,.au,.sl j ((curD (l.take (k))).length) (((curD (l.take (k))).drop j).map encO),.au] [3,5,6,7,8,9,10,11] [1] hS hE ⟨hlej,by simp,by rw [List.take_of_length_le (by simp),List.map_drop],rfl,by simp,trivial⟩ fun a w hS=>?_
    refine wp_seq_k fun K12 hK12=>?_
    refine PX.G [(.e 48 (.sc (.bool (decide ((j:Int)<(((curD (l.take (k))).length:Nat):Int))&&(!(beforeD y (gO (curD (l.take (k))) j)))))))] [] 2 [] [] [.au] [3,5,6,8,9,10,11,48] [1] hS hE trivial fun a w hS=>?_
    refine PX.cond_s (decide ((j:Int)<(((curD (l.take (k))).length:Nat):Int))&&(!(beforeD y (gO (curD (l.take (k))) j)))) hS (by kernel_rfl) (fun h13=>?_) (fun h13=>?_)
    ·skip
     refine PX.G0 [(.e 8 (.imm 11 (((curD (l.take (k))).drop (j+1)).map encO)))] [] 2 [.q ((.sc (.I (IntKind.i64.wrap ((j:Int)+1))):PX.PV)=(.sc (.I ((j+1:Nat):Int)))),.q ((j+1:Nat)≤(curD (l.take (k))).length),.q ((curD (l.take (k))).length≤((curD (l.take (k))).map encO).length),.q ((((curD (l.take (k))).map encO).take ((curD (l.take (k))).length)).drop (j+1)=((curD (l.take (k))).drop (j+1)).map encO),.q (((j+1:Nat):Int)=((j+1:Nat):Int)),.q (((curD (l.take (k))).length:Nat)=((curD (l.take (k))).map encO).length)] [] [.au,.au,.nm (.sc (.I ((j+1:Nat):Int))),.sl (j+1) ((curD (l.take (k))).length) (((curD (l.take (k))).drop (j+1)).map encO),.au] [3,5,6,8,9,10,11] [1] hS hE ⟨PX.nm_int (by rw [IntWalk.i64_in _ (by omega)]; omega),by have hq:=h13; simp at hq; omega,by simp,by rw [List.take_of_length_le (by simp),List.map_drop],rfl,by simp,trivial⟩ fun a w hS=>?_
     refine hK12 _ _ ?_
     refine PX.D0 [(.e 3 (.own 6 11 (((((curD (l.take (k))).take j).map encO++[(encO y)]):List (List PX.PV)).length+(((curD (l.take (k))).drop (j+1)).map encO).length)))] [(6,.row 74 11 true ((((curD (l.take (k))).take j).map encO++[(encO y)])++((curD (l.take (k))).drop (j+1)).map encO))] 7 [.q ((0:Nat)≤j),.q (j≤((curD (l.take (k))).map encO).length),.q ((((curD (l.take (k))).map encO).take j).drop 0=((curD (l.take (k))).take j).map encO),.q ((0:Nat)=0),.q ((j:Int)=(j:Int)),.b (lenIs 0 ([])),.b true,.b (Nat.ble (0+(((curD (l.take (k))).take j).map encO).length) 1000000000),.b (lenIs (0+(((curD (l.take (k))).take j).map encO).length) (((curD (l.take (k))).take j).map encO)),.b (lenIs 1 ([(encO y)])),.b (Nat.ble ((((curD (l.take (k))).take j).map encO:List (List PX.PV)).length+1) 1000000000),.b (lenIs ((((curD (l.take (k))).take j).map encO:List (List PX.PV)).length+1) (((curD (l.take (k))).take j).map encO++[(encO y)])),.b true,.b (Nat.ble (((((curD (l.take (k))).take j).map encO++[(encO y)]):List (List PX.PV)).length+(((curD (l.take (k))).drop (j+1)).map encO).length) 1000000000)] [] [.au,.au,.au,.sl 0 j (((curD (l.take (k))).take j).map encO),.au,.au,.au,.au,.au,.au,.au] [3,9,10,11] [6] hS mixed hE ⟨Nat.zero_le _,by simpa using hlej,by simp [List.map_take],rfl,rfl,rfl,rfl,by rw [Nat.ble_eq]; simp; omega,by simp [PX.lenIs] <;> omega,rfl,by rw [Nat.ble_eq]; simp; omega,by simp [PX.lenIs] <;> omega,rfl,by rw [Nat.ble_eq]; simp; omega,trivial⟩ fun a w hS=>?_
     refine hK5 _ _ ?_
     refine PX.G0 [(.e 11 (.sc (.I ((k+1:Nat):Int))))] [] 7 [.q ((.sc (.I (IntKind.i64.wrap ((k:Int)+1))):PX.PV)=(.sc (.I ((k+1:Nat):Int))))] [] [.nm (.sc (.I ((k+1:Nat):Int))),.au] [3,9,10,11] [6] hS hE ⟨PX.nm_int (by rw [IntWalk.i64_in _ (by omega)]; omega),trivial⟩ fun a w hS=>?_
     replace hS:=PX.fz 6 [(.e 3 (.imm 11 ((((curD (l.take (k))).take j).map encO++[(encO y)])++((curD (l.take (k))).drop (j+1)).map encO)))] [] [3,9,10,11] [] [.b (PX.lenIs (((((curD (l.take (k))).take j).map encO++[(encO y)]):List (List PX.PV)).length+(((curD (l.take (k))).drop (j+1)).map encO).length) ((((curD (l.take (k))).take j).map encO++[(encO y)])++((curD (l.take (k))).drop (j+1)).map encO))] hS ⟨(by simp [PX.lenIs] <;> omega),trivial⟩
     replace hS:=PX.sl [3,9,10,11] (PX.reslot (t:=3) (.imm 11 ((curD (l.take (k+1))).map encO)) hS rfl (fun _ _ _ _ h=>(show (.imm 11 ((((curD (l.take (k))).take j).map encO++[(encO y)])++((curD (l.take (k))).drop (j+1)).map encO))=(.imm 11 ((curD (l.take (k+1))).map encO):PX.PV) from by rw [curD_succ hy]; unfold curStep; rw [if_pos (show y.kind=21 by simpa using h7)]; unfold curIns; rw [hat,if_pos (show (decide ((j:Int)<(((curD (l.take (k))).length:Nat):Int))&&!beforeD y (gO (curD (l.take (k))) j))=true by have:=h13; simpa using this)]; simp [List.map_take,List.map_drop,encO]) ▸ h))
     exact ⟨l.length-(k+1),by omega,k+1,rfl,by omega,trivial,(PX.cn [] _ _ 1 hS hE)⟩
    ·skip
     refine wp_skip ?_
     refine hK12 _ _ ?_
     refine PX.D0 [(.e 3 (.own 6 11 (((((curD (l.take (k))).take j).map encO++[(encO y)]):List (List PX.PV)).length+(((curD (l.take (k))).drop j).map encO).length)))] [(6,.row 74 11 true ((((curD (l.take (k))).take j).map encO++[(encO y)])++((curD (l.take (k))).drop j).map encO))] 7 [.q ((0:Nat)≤j),.q (j≤((curD (l.take (k))).map encO).length),.q ((((curD (l.take (k))).map encO).take j).drop 0=((curD (l.take (k))).take j).map encO),.q ((0:Nat)=0),.q ((j:Int)=(j:Int)),.b (lenIs 0 ([])),.b true,.b (Nat.ble (0+(((curD (l.take (k))).take j).map encO).length) 1000000000),.b (lenIs (0+(((curD (l.take (k))).take j).map encO).length) (((curD (l.take (k))).take j).map encO)),.b (lenIs 1 ([(encO y)])),.b (Nat.ble ((((curD (l.take (k))).take j).map encO:List (List PX.PV)).length+1) 1000000000),.b (lenIs ((((curD (l.take (k))).take j).map encO:List (List PX.PV)).length+1) (((curD (l.take (k))).take j).map encO++[(encO y)])),.b true,.b (Nat.ble (((((curD (l.take (k))).take j).map encO++[(encO y)]):List (List PX.PV)).length+(((curD (l.take (k))).drop j).map encO).length) 1000000000)] [] [.au,.au,.au,.sl 0 j (((curD (l.take (k))).take j).map encO),.au,.au,.au,.au,.au,.au,.au] [3,9,10,11] [6] hS mixed hE ⟨Nat.zero_le _,by simpa using hlej,by simp [List.map_take],rfl,rfl,rfl,rfl,by rw [Nat.ble_eq]; simp; omega,by simp [PX.lenIs] <;> omega,rfl,by rw [Nat.ble_eq]; simp; omega,by simp [PX.lenIs] <;> omega,rfl,by rw [Nat.ble_eq]; simp; omega,trivial⟩ fun a w hS=>?_
     refine hK5 _ _ ?_
     refine PX.G0 [(.e 11 (.sc (.I ((k+1:Nat):Int))))] [] 7 [.q ((.sc (.I (IntKind.i64.wrap ((k:Int)+1))):PX.PV)=(.sc (.I ((k+1:Nat):Int))))] [] [.nm (.sc (.I ((k+1:Nat):Int))),.au] [3,9,10,11] [6] hS hE ⟨PX.nm_int (by rw [IntWalk.i64_in _ (by omega)]; omega),trivial⟩ fun a w hS=>?_
     replace hS:=PX.fz 6 [(.e 3 (.imm 11 ((((curD (l.take (k))).take j).map encO++[(encO y)])++((curD (l.take (k))).drop j).map encO)))] [] [3,9,10,11] [] [.b (PX.lenIs (((((curD (l.take (k))).take j).map encO++[(encO y)]):List (List PX.PV)).length+(((curD (l.take (k))).drop j).map encO).length) ((((curD (l.take (k))).take j).map encO++[(encO y)])++((curD (l.take (k))).drop j).map encO))] hS ⟨(by simp [PX.lenIs] <;> omega),trivial⟩
     replace hS:=PX.sl [3,9,10,11] (PX.reslot (t:=3) (.imm 11 ((curD (l.take (k+1))).map encO)) hS rfl (fun _ _ _ _ h=>(show (.imm 11 ((((curD (l.take (k))).take j).map encO++[(encO y)])++((curD (l.take (k))).drop j).map encO))=(.imm 11 ((curD (l.take (k+1))).map encO):PX.PV) from by rw [curD_succ hy]; unfold curStep; rw [if_pos (show y.kind=21 by simpa using h7)]; unfold curIns; rw [hat,if_neg (show ¬ (decide ((j:Int)<(((curD (l.take (k))).length:Nat):Int))&&!beforeD y (gO (curD (l.take (k))) j))=true by have:=h13; simpa using this)]; simp [List.map_take,List.map_drop,encO]) ▸ h))
     exact ⟨l.length-(k+1),by omega,k+1,rfl,by omega,trivial,(PX.cn [] _ _ 1 hS hE)⟩
 ·skip
  refine wp_exit ?_
  refine hK1 _ _ ?_
  refine PX.G [(.e 2 (.imm 11 ((curD (l.take (k))).map encO)))] [] 1 [] [] [.au,.au] [2] [] hS hE trivial fun a w hS=>?_
  refine wp_ret ?_
  rw [show (.imm 11 ((curD l).map encO))=((.imm 11 ((curD (l.take (k))).map encO)):PX.PV) from by rw [show curD l=curD (l.take k) from by rw [List.take_of_length_le (le_of_dec h4)]]]
  exact PX.rt hS hE (.inl rfl)
end Go.Proofs.Ytlkcidmmpeebeaa

/- Proved: the document's last uses -/
namespace Go.Proofs.Ytlkcidmmpeebeaa
open Go.RowKit Go.PX
set_option maxRecDepth 100000
theorem setAll_take {l:List Int} {k:Nat} {vs:List Int} {j:Nat} {y:Int} (hy:vs[j]?=some y):setAll l k (vs.take (j+1))=(setAll l k (vs.take j)).set y.toNat (k:Int):=by
 unfold setAll; rw [List.take_add_one,hy]; simp [List.foldl_append]
theorem lastK_succ {keep:Bool} {b:BlockD} {k:Nat} {y:OpD} (hy:b.ops[k]?=some y):lastK keep b (k+1)=setAll (defI (lastK keep b k) y k) k (usesR b k keep y):=by
 unfold lastK; rw [fold_take _ _ hy]; rfl
theorem usesR_len (b:BlockD) (k:Nat) (keep:Bool) (y:OpD):(usesR b k keep y).length≤2+b.ops.length:=by
 have h1:=curD_len (b.ops.take k)
 rw [List.length_take] at h1
 have h2:=List.length_filter_le (fun x:OpD=>x.sk==2&&(aheadD b k).contains x.sv) (curD (b.ops.take k))
 have h3:=uA_len y
 have h4:=uB_len y
 unfold usesR
 split <;> simp at*<;> omega
theorem endsR_len (t:TermD):(endsR t).length≤1+t.args.length+t.args0.length+t.args1.length:=by unfold endsR; split <;> simp <;> omega

set_option maxHeartbeats 400000 in
theorem con_f86n (b:BlockD) (hb:0≤b.params∧b.params≤999) (hl:b.ops.length≤1000000):PX.Con Try.prog 86 [(.agg [(.J b.params),(.imm 11 (b.ops.map encO)),(.J 0),(.J 0),(.J 0),(.sc (.slice none 0 0)),(.J 0),(.sc (.slice none 0 0)),(.J 0),(.sc (.slice none 0 0))])] [] 1 100000 (.imm 1 ((R.values b).map encI)) []:=by
 refine PX.con_intro [(.agg [(.J b.params),(.imm 11 (b.ops.map encO)),(.J 0),(.J 0),(.J 0),(.sc (.slice none 0 0)),(.J 0),(.sc (.slice none 0 0)),(.J 0),(.sc (.slice none 0 0))])] 34 Try.func86 rfl rfl (by kernel_rfl) (by kernel_rfl) ?_
 intro E a hE hS
 generalize E.w0=w at hS ⊢
 have mix:=mixed
 refine PX.G [(.e 1 (.ptr 1 0))] [(1,.box 62 [(.J b.params),(.imm 11 (b.ops.map encO)),(.J 0),(.J 0),(.J 0),(.sc (.slice none 0 0)),(.J 0),(.sc (.slice none 0 0)),(.J 0),(.sc (.slice none 0 0))])] 2 [] [] [.au,.au] [1] [1] hS hE trivial fun a w hS=>?_
 refine PX.G [(.e 3 (.sc (.slice none 0 0)))] [] 2 [] [] [.au] [1,3] [1] hS hE trivial fun a w hS=>?_
 refine wp_seq_k fun K1 hK1=>?_
 refine PX.G [(.e 4 (.J 0))] [] 2 [] [] [.au] [1,3,4] [1] hS hE trivial fun a w hS=>?_
 refine wp_block ?_
 replace hS:=PX.sl [1,3,4] (PX.reslot (t:=3) (.own 2 1 0) (PX.newrow 3 1 hS (hE.le (by decide))) rfl (PX.nil_own 2 1))
 refine wp_loop_ghost (fun m2 a' w'=>∃ k:Nat,m2=b.params.toNat-k∧k≤b.params.toNat∧True∧PX.Sat E 34 [(.e 1 (.ptr 1 0)),(.e 3 (.own 4 1 k)),(.e 4 (.sc (.I (k:Int))))] [(1,.box 62 [(.J b.params),(.imm 11 (b.ops.map encO)),(.J 0),(.J 0),(.J 0),(.sc (.slice none 0 0)),(.J 0),(.sc (.slice none 0 0)),(.J 0),(.sc (.slice none 0 0))]),(4,.row 3 1 true (((List.range (k)).map (fun i:Nat=>(i:Int))).map encI))] 5 a' w') (b.params.toNat-0) ⟨0,rfl,Nat.zero_le _,trivial,(PX.cn [(4,2)] _ _ 5 hS hE)⟩ ?_
 clear hS; rintro m2 a w ⟨k,hm2,hlek,hIk,hS⟩
 refine wp_seq_k fun K3 hK3=>?_
 refine PX.G [(.e 10 (.sc (.bool (decide ((k:Int)<b.params)))))] [] 5 [] [] [.au,.au,.au,.au] [1,3,4,10] [1,4] hS hE trivial fun a w hS=>?_
 refine PX.cond_s (decide ((k:Int)<b.params)) hS (by kernel_rfl) (fun h4=>?_) (fun h4=>?_)
 ·skip
  refine wp_skip ?_
  refine hK3 _ _ ?_
  refine wp_seq_k fun K5 hK5=>?_
  refine wp_block ?_
  refine PX.G0 [(.e 3 (.own 6 1 ((((List.range (k)).map (fun i:Nat=>(i:Int))).map encI:List (List PX.PV)).length+1)))] [(6,.row 3 1 true (((List.range (k)).map (fun i:Nat=>(i:Int))).map encI++[[(.sc (.I (k:Int)))]]))] 7 [.b (lenIs k (((List.range (k)).map (fun i:Nat=>(i:Int))).map encI)),.b (lenIs 1 ([[(.sc (.I (k:Int)))]])),.b (Nat.ble ((((List.range (k)).map (fun i:Nat=>(i:Int))).map encI:List (List PX.PV)).length+1) 1000000000)] [] [.au,.au,.au,.au,.au] [1,3,4] [1,6] hS hE ⟨by simp [PX.lenIs],rfl,by simp; omega,trivial⟩ fun a w hS=>?_
  refine hK5 _ _ ?_
  refine PX.G0 [(.e 4 (.sc (.I ((k+1:Nat):Int))))] [] 7 [.q ((.sc (.I (IntKind.i64.wrap ((k:Int)+1))):PX.PV)=(.sc (.I ((k+1:Nat):Int))))] [] [.au,.nm (.sc (.I ((k+1:Nat):Int))),.au] [1,3,4] [1,6] hS hE ⟨PX.nm_int (by rw [IntWalk.i64_in _ (by omega)]; omega),trivial⟩ fun a w hS=>?_
  have hkb:(k:Int)<b.params:=by simpa using h4
  have e1:(((List.range (k)).map (fun i:Nat=>(i:Int))).map encI++[[(.sc (.I (k:Int)))]])=((List.range (k+1)).map (fun i:Nat=>(i:Int))).map encI:=by rw [List.range_succ]; simp [encI]
  have e2:(((List.range (k)).map (fun i:Nat=>(i:Int))).map encI:List (List PX.PV)).length+1=k+1:=by simp
  rw [e2,e1] at hS
  exact ⟨b.params.toNat-(k+1),by omega,k+1,rfl,by omega,trivial,(PX.cn [(4,6)] _ _ 5 hS hE)⟩
 ·skip
  refine wp_exit ?_
  refine hK1 _ _ ?_
  refine wp_seq_k fun K6 hK6=>?_
  refine PX.G [(.e 18 (.imm 11 (b.ops.map encO))),(.e 19 (.sc (.I (b.ops.length:Int)))),(.e 20 (.J 0))] [] 5 [.q ((.sc (.I (((b.ops.map encO).length:Nat):Int)):PX.PV)=(.sc (.I (b.ops.length:Int))))] [] [.au,.au,.nm (.sc (.I (b.ops.length:Int))),.au] [3,18,19,20] [4] hS hE ⟨PX.nm_len (by simp),trivial⟩ fun a w hS=>?_
  refine wp_block ?_
  have hkb:k=b.params.toNat:=by have:=h4; simp at this; omega
  have e1:((List.range (k)).map (fun i:Nat=>(i:Int))).map encI=(R.upto b.params++dsts (b.ops.take (0))).map encI:=by rw [hkb]; simp [dsts,R.upto]
  have e2:k=(R.upto b.params++dsts (b.ops.take (0))).length:=by rw [hkb]; simp [dsts,R.upto]
  rw [e1,e2] at hS
  refine wp_loop_ghost (fun m7 a' w'=>∃ k:Nat,m7=b.ops.length-k∧k≤b.ops.length∧True∧PX.Sat E 34 [(.e 3 (.own 4 1 ((R.upto b.params++dsts (b.ops.take (k))).length))),(.e 18 (.imm 11 (b.ops.map encO))),(.e 19 (.sc (.I (b.ops.length:Int)))),(.e 20 (.sc (.I (k:Int))))] [(4,.row 3 1 true ((R.upto b.params++dsts (b.ops.take (k))).map encI))] 5 a' w') (b.ops.length-0) ⟨0,rfl,Nat.zero_le _,trivial,(PX.cn [] _ _ 5 hS hE)⟩ ?_
  clear hS; rintro m7 a w ⟨k,hm7,hlek,hIk,hS⟩
  refine PX.G [(.e 21 (.sc (.bool (decide ((k:Int)<(b.ops.length:Int))))))] [] 5 [] [] [.au] [3,18,19,20,21] [4] hS hE trivial fun a w hS=>?_
  refine wp_seq_k fun K8 hK8=>?_
  refine PX.cond_s (decide ((k:Int)<(b.ops.length:Int))) hS (by kernel_rfl) (fun h9=>?_) (fun h9=>?_)
  ·skip
   refine wp_skip ?_
   refine hK8 _ _ ?_
   refine wp_seq_k fun K10 hK10=>?_
   refine wp_block ?_
   have hlty:k<b.ops.length:=by simpa using h9
   obtain ⟨y,hy⟩:=get_of_lt hlty
   refine PX.G [(.e 6 (.ptr 5 0))] [(5,.box 74 (encO y))] 6 [.q ((k:Int)=(k:Int)),.q ((b.ops.map encO)[k]?=some (encO y))] [] [.ix k (encO y),.au,.au,.au] [3,6,18,19,20] [4,5] hS hE ⟨rfl,PX.map_get hy,trivial⟩ fun a w hS=>?_
   refine PX.G [(.e 26 (.sc (.bool (R.defines y.kind))))] [] 6 [.q (PX.Con Try.prog 90 [(.J y.kind)] [] 6 6 (.sc (.bool (R.defines y.kind))) [])] [] [.au,.au,.cl [] (.sc (.bool (R.defines y.kind))) [] 6] [3,6,18,19,20,26] [4,5] hS hE ⟨PX.con_any (con_f90 y.kind),trivial⟩ fun a w hS=>?_
   refine PX.cond_s (R.defines y.kind) hS (by kernel_rfl) (fun h11=>?_) (fun h11=>?_)
   ·skip
    refine PX.G0 [(.e 3 (.own 7 1 (((R.upto b.params++dsts (b.ops.take (k))).map encI:List (List PX.PV)).length+1)))] [(7,.row 3 1 true ((R.upto b.params++dsts (b.ops.take (k))).map encI++[[(.J y.dst)]]))] 8 [.b (lenIs ((R.upto b.params++dsts (b.ops.take (k))).length) ((R.upto b.params++dsts (b.ops.take (k))).map encI)),.b (lenIs 1 ([[(.J y.dst)]])),.b (Nat.ble (((R.upto b.params++dsts (b.ops.take (k))).map encI:List (List PX.PV)).length+1) 1000000000)] [] [.au,.au,.au,.au,.au,.au] [3,18,19,20] [7] hS hE ⟨by simp [PX.lenIs],rfl,by have:=dsts_len (b.ops.take k); simp [upto_len2] at this ⊢; omega,trivial⟩ fun a w hS=>?_
    refine hK10 _ _ ?_
    refine PX.G0 [(.e 20 (.sc (.I ((k+1:Nat):Int))))] [] 8 [.q ((.sc (.I (IntKind.i64.wrap ((k:Int)+1))):PX.PV)=(.sc (.I ((k+1:Nat):Int))))] [] [.nm (.sc (.I ((k+1:Nat):Int))),.au] [3,18,19,20] [7] hS hE ⟨PX.nm_int (by rw [IntWalk.i64_in _ (by omega)]; omega),trivial⟩ fun a w hS=>?_
    have ed:=dsts_take hy
    rw [if_pos h11] at ed
    have e1:((R.upto b.params++dsts (b.ops.take (k))).map encI++[[(.J y.dst)]])=(R.upto b.params++dsts (b.ops.take (k+1))).map encI:=by rw [ed]; simp [encI]
    have e2:((R.upto b.params++dsts (b.ops.take (k))).map encI:List (List PX.PV)).length+1=(R.upto b.params++dsts (b.ops.take (k+1))).length:=by rw [ed]; simp; omega
    rw [e2,e1] at hS
    exact ⟨b.ops.length-(k+1),by omega,k+1,rfl,by omega,trivial,(PX.cn [(4,7)] _ _ 5 hS hE)⟩
   ·skip
    refine wp_skip ?_
    refine hK10 _ _ ?_
    refine PX.G0 [(.e 20 (.sc (.I ((k+1:Nat):Int))))] [] 6 [.q ((.sc (.I (IntKind.i64.wrap ((k:Int)+1))):PX.PV)=(.sc (.I ((k+1:Nat):Int))))] [] [.nm (.sc (.I ((k+1:Nat):Int))),.au] [3,18,19,20] [4] hS hE ⟨PX.nm_int (by rw [IntWalk.i64_in _ (by omega)]; omega),trivial⟩ fun a w hS=>?_
    have ed:=dsts_take hy
    rw [if_neg (by rw [h11]; simp)] at ed
    rw [show (R.upto b.params++dsts (b.ops.take (k)))=(R.upto b.params++dsts (b.ops.take (k+1))) from by rw [ed,List.append_nil]] at hS
    exact ⟨b.ops.length-(k+1),by omega,k+1,rfl,by omega,trivial,(PX.cn [] _ _ 5 hS hE)⟩
  ·skip
   refine wp_exit ?_
   refine hK6 _ _ ?_
   refine PX.G [(.e 2 (.own 4 1 ((R.upto b.params++dsts (b.ops.take (k))).length)))] [] 5 [] [] [.au,.au] [2] [4] hS hE trivial fun a w hS=>?_
   have hk:b.ops.length≤k:=by simpa using h9
   replace hS:=PX.fz 4 [(.e 2 (.imm 1 ((R.upto b.params++dsts (b.ops.take (k))).map encI)))] [] [2] [] [.b (PX.lenIs ((R.upto b.params++dsts (b.ops.take (k))).length) ((R.upto b.params++dsts (b.ops.take (k))).map encI))] hS ⟨(by simp [PX.lenIs]),trivial⟩
   refine wp_ret ?_
   rw [show (.imm 1 ((R.values b).map encI))=((.imm 1 ((R.upto b.params++dsts (b.ops.take (k))).map encI)):PX.PV) from by rw [values_eq2,List.take_of_length_le hk]]
   exact PX.rt hS hE (.inl rfl)

set_option maxHeartbeats 2000000 in
theorem con_f145 (b:BlockD) (k:Nat) (y:OpD) (keep:Bool) (hy:b.ops[k]?=some y) (hb:0≤b.params∧b.params≤999) (hl:b.ops.length≤6000):PX.Con Try.prog 145 [(.agg (encB b)),(.sc (.I (k:Int))),(.sc (.bool keep))] [] 1 100000 (.imm 1 ((usesR b k keep y).map encI)) []:=by
 refine PX.con_intro [(.agg (encB b)),(.sc (.I (k:Int))),(.sc (.bool keep))] 81 Try.func145 rfl rfl (by kernel_rfl) (by kernel_rfl) ?_
 intro E a hE hS
 generalize E.w0=w at hS ⊢
 have mix:=mixed
 refine PX.G [(.e 3 (.ptr 1 0))] [(1,.box 62 (encB b))] 2 [] [] [.au,.au] [1,2,3] [1] hS hE trivial fun a w hS=>?_
 refine PX.G [(.e 7 (.sc (.slice none 0 0)))] [] 2 [] [] [.au] [1,2,3,7] [1] hS hE trivial fun a w hS=>?_
 replace hS:=PX.sl [1,2,3,7] (PX.reslot (t:=7) (.own 2 1 0) (PX.newrow 3 1 hS (hE.le (by decide))) rfl (PX.nil_own 2 1))
 refine PX.G [(.e 8 (.ptr 3 0))] [(3,.box 74 (encO y))] 4 [.q ((k:Int)=(k:Int)),.q ((b.ops.map encO)[k]?=some (encO y))] [] [.au,.au,.au,.ix k (encO y),.au,.au,.au] [1,2,3,7,8] [1,2,3] hS hE ⟨rfl,PX.map_get hy,trivial⟩ fun a w hS=>?_
 refine PX.seq_cut (E:=E) (N:=81) (T:=[(.e 1 (.sc (.I (k:Int)))),(.e 2 (.sc (.bool keep))),(.e 3 (.ptr 1 0)),(.e 7 (.own 2 1 ((uA y).length))),(.e 8 (.ptr 3 0))]) (H:=[(1,.box 62 (encB b)),(2,.row 3 1 true ((uA y).map encI)),(3,.box 74 (encO y))]) (nx:=4) ?_ ?_
 ·skip
  refine PX.G [(.e 19 (.sc (.bool (R.usesA y.kind))))] [] 4 [.q (PX.Con Try.prog 88 [(.J y.kind)] [] 4 4 (.sc (.bool (R.usesA y.kind))) [])] [] [.au,.au,.cl [] (.sc (.bool (R.usesA y.kind))) [] 4] [1,2,3,7,8,19] [1,2,3] hS hE ⟨con_f88R y.kind,trivial⟩ fun a w hS=>?_
  refine PX.cond_s (R.usesA y.kind) hS (by kernel_rfl) (fun h1=>?_) (fun h1=>?_)
  ·skip
   refine PX.G0 [(.e 7 (.own 5 1 1))] [(5,.row 3 1 true ([[(.J y.a)]]))] 6 [.b (lenIs 0 ([])),.b (lenIs 1 ([[(.J y.a)]])),.b (Nat.ble (1) 1000000000)] [] [.au,.au,.au,.au,.au,.au] [1,2,3,7,8] [1,3,5] hS hE ⟨rfl,rfl,rfl,trivial⟩ fun a w hS=>?_
   replace hS:=PX.sl [1,2,3,7,8] (PX.reslot (t:=7) (.own 5 1 ((uA y).length)) hS rfl (fun _ _ _ _ h=>(show (.own 5 1 1:PX.PV)=.own 5 1 (uA y).length from by rw [uA_yes h1]; simp) ▸ h))
   replace hS:=PX.rerow (id:=5) ((uA y).map encI) hS rfl (by rw [uA_yes h1]; simp [encI])
   exact (PX.cn [(2,5)] _ _ 4 hS hE)
  ·skip
   refine wp_skip ?_
   replace hS:=PX.sl [1,2,3,7,8,19] (PX.reslot (t:=7) (.own 2 1 ((uA y).length)) hS rfl (fun _ _ _ _ h=>(show (.own 2 1 0:PX.PV)=.own 2 1 (uA y).length from by rw [uA_no h1]; simp) ▸ h))
   replace hS:=PX.rerow (id:=2) ((uA y).map encI) hS rfl (by rw [uA_no h1]; simp [encI])
   replace hS:=PX.sl [1,2,3,7,8] hS
   exact (PX.cn [] _ _ 4 hS hE)
 clear hS; intro a w hS
 refine PX.seq_cut (E:=E) (N:=81) (T:=[(.e 1 (.sc (.I (k:Int)))),(.e 2 (.sc (.bool keep))),(.e 3 (.ptr 1 0)),(.e 7 (.own 2 1 ((uA y++uB y).length))),(.e 8 (.ptr 3 0))]) (H:=[(1,.box 62 (encB b)),(2,.row 3 1 true ((uA y++uB y).map encI)),(3,.box 74 (encO y))]) (nx:=4) ?_ ?_
 ·skip
  refine PX.G [(.e 27 (.sc (.bool (R.usesB y.kind))))] [] 4 [.q (PX.Con Try.prog 89 [(.J y.kind)] [] 4 4 (.sc (.bool (R.usesB y.kind))) [])] [] [.au,.au,.cl [] (.sc (.bool (R.usesB y.kind))) [] 4] [1,2,3,7,8,27] [1,2,3] hS hE ⟨con_f89R y.kind,trivial⟩ fun a w hS=>?_
  refine PX.cond_s (R.usesB y.kind) hS (by kernel_rfl) (fun h2=>?_) (fun h2=>?_)
  ·skip
   refine PX.G0 [(.e 7 (.own 5 1 (((uA y).map encI:List (List PX.PV)).length+1)))] [(5,.row 3 1 true ((uA y).map encI++[[(.J y.b)]]))] 6 [.b (lenIs ((uA y).length) ((uA y).map encI)),.b (lenIs 1 ([[(.J y.b)]])),.b (Nat.ble (((uA y).map encI:List (List PX.PV)).length+1) 1000000000)] [] [.au,.au,.au,.au,.au,.au] [1,2,3,7,8] [1,3,5] hS hE ⟨by simp [PX.lenIs],rfl,by rw [Nat.ble_eq]; have h1:=uA_len y; have h2:=uB_len y; simp; (try have h3:=hfl q); omega,trivial⟩ fun a w hS=>?_
   replace hS:=PX.sl [1,2,3,7,8] (PX.reslot (t:=7) (.own 5 1 ((uA y++uB y).length)) hS rfl (fun _ _ _ _ h=>(show (.own 5 1 (((uA y).map encI:List (List PX.PV)).length+1):PX.PV)=.own 5 1 (uA y++uB y).length from by rw [uB_yes h2]; simp) ▸ h))
   replace hS:=PX.rerow (id:=5) ((uA y++uB y).map encI) hS rfl (by rw [uB_yes h2]; simp [encI])
   exact (PX.cn [(2,5)] _ _ 4 hS hE)
  ·skip
   refine wp_skip ?_
   replace hS:=PX.sl [1,2,3,7,8,27] (PX.reslot (t:=7) (.own 2 1 ((uA y++uB y).length)) hS rfl (fun _ _ _ _ h=>(show (.own 2 1 ((uA y).length):PX.PV)=.own 2 1 (uA y++uB y).length from by rw [uB_no h2]; simp) ▸ h))
   replace hS:=PX.rerow (id:=2) ((uA y++uB y).map encI) hS rfl (by rw [uB_no h2]; simp [encI])
   replace hS:=PX.sl [1,2,3,7,8] hS
   exact (PX.cn [] _ _ 4 hS hE)
 clear hS; intro a w hS
 refine wp_seq_k fun K3 hK3=>?_
 refine PX.G [(.e 43 (.sc (.bool (keep&&((y.kind==19)||(y.kind==20))))))] [] 4 [] [(1,keep),(5,(y.kind==19))] [.au,.au,.au,.au,.au,.au,.au,.au,.au,.pk,.pk] [1,3,7,43] [1,2] hS hE trivial fun a w hS=>?_
 refine PX.cond_s (keep&&((y.kind==19)||(y.kind==20))) hS (by kernel_rfl) (fun h4=>?_) (fun h4=>?_)
 ·skip
  refine PX.D [(.e 9 (.imm 1 ((aheadD b k).map encI)))] [] 4 [.q ((0:Nat)≤k),.q (k≤(b.ops.map encO).length),.q (((b.ops.map encO).take k).drop 0=(b.ops.take k).map encO),.q ((0:Nat)=0),.q ((k:Int)=(k:Int)),.q (PX.Con Try.prog 86 [(.agg [(.J b.params),(.imm 11 ((b.ops.take k).map encO)),(.J 0),(.J 0),(.J 0),(.sc (.slice none 0 0)),(.J 0),(.sc (.slice none 0 0)),(.J 0),(.sc (.slice none 0 0))])] [] 4 4 (.imm 1 ((aheadD b k).map encI)) [])] [] [.au,.au,.au,.au,.au,.sl 0 k ((b.ops.take k).map encO),.au,.cl [] (.imm 1 ((aheadD b k).map encI)) [] 4,.au] [1,3,7,9] [1,2] hS mixed hE ⟨Nat.zero_le _,by have:=(List.getElem?_eq_some_iff.1 hy).1; simp; omega,by simp [List.map_take],rfl,rfl,PX.con_any (con_f86n { params:=b.params,ops:=b.ops.take k,term:=b.term } hb (by simp; omega)),trivial⟩ fun a w hS=>?_
  refine PX.G [(.e 56 (.imm 11 ((curD (b.ops.take k)).map encO))),(.e 57 (.sc (.I (((curD (b.ops.take k)).length:Nat):Int)))),(.e 58 (.J 0))] [] 4 [.q ((0:Nat)≤k),.q (k≤(b.ops.map encO).length),.q (((b.ops.map encO).take k).drop 0=(b.ops.take k).map encO),.q ((0:Nat)=0),.q ((k:Int)=(k:Int)),.q (PX.Con Try.prog 132 [(.imm 11 ((b.ops.take k).map encO))] [] 4 4 (.imm 11 ((curD (b.ops.take k)).map encO)) []),.q ((.sc (.I ((((curD (b.ops.take k)).map encO).length:Nat):Int)):PX.PV)=(.sc (.I (((curD (b.ops.take k)).length:Nat):Int))))] [] [.au,.au,.au,.sl 0 k ((b.ops.take k).map encO),.cl [] (.imm 11 ((curD (b.ops.take k)).map encO)) [] 4,.nm (.sc (.I (((curD (b.ops.take k)).length:Nat):Int))),.au] [7,9,56,57,58] [2] hS hE ⟨Nat.zero_le _,by have:=(List.getElem?_eq_some_iff.1 hy).1; simp; omega,by simp [List.map_take],rfl,rfl,PX.con_any (con_f132g (b.ops.take k) (by simp; omega)),PX.nm_len (by simp),trivial⟩ fun a w hS=>?_
  refine wp_block ?_
  have hcl:=curD_len (b.ops.take k); rw [List.length_take] at hcl; have hfl:∀ q,(((curD (b.ops.take k)).take q).filter (fun x=>x.sk==2&&(aheadD b k).contains x.sv)).length≤q:=fun q=>Nat.le_trans (List.length_filter_le _ _) (by rw [List.length_take]; omega)
  replace hS:=PX.sl [7,9,56,57,58] (PX.reslot (t:=7) (.own 2 1 (((uA y++uB y)++(((curD (b.ops.take k)).take (0)).filter (fun x=>x.sk==2&&(aheadD b k).contains x.sv)).map (·.sv)).length)) hS rfl (fun _ _ _ _ h=>(show (.own 2 1 ((uA y++uB y).length):PX.PV)=.own 2 1 ((uA y++uB y)++(((curD (b.ops.take k)).take (0)).filter (fun x=>x.sk==2&&(aheadD b k).contains x.sv)).map (·.sv)).length from by simp) ▸ h))
  replace hS:=PX.rerow (id:=2) (((uA y++uB y)++(((curD (b.ops.take k)).take (0)).filter (fun x=>x.sk==2&&(aheadD b k).contains x.sv)).map (·.sv)).map encI) hS rfl (by simp)
  refine wp_loop_ghost (fun m5 a' w'=>∃ q:Nat,m5=(curD (b.ops.take k)).length-q∧q≤(curD (b.ops.take k)).length∧True∧PX.Sat E 81 [(.e 7 (.own 2 1 (((uA y++uB y)++(((curD (b.ops.take k)).take (q)).filter (fun x=>x.sk==2&&(aheadD b k).contains x.sv)).map (·.sv)).length))),(.e 9 (.imm 1 ((aheadD b k).map encI))),(.e 56 (.imm 11 ((curD (b.ops.take k)).map encO))),(.e 57 (.sc (.I (((curD (b.ops.take k)).length:Nat):Int)))),(.e 58 (.sc (.I (q:Int))))] [(2,.row 3 1 true (((uA y++uB y)++(((curD (b.ops.take k)).take (q)).filter (fun x=>x.sk==2&&(aheadD b k).contains x.sv)).map (·.sv)).map encI))] 3 a' w') ((curD (b.ops.take k)).length-0) ⟨0,rfl,Nat.zero_le _,trivial,(PX.cn [] _ _ 3 hS hE)⟩ ?_
  clear hS; rintro m5 a w ⟨q,hm5,hleq,hIq,hS⟩
  refine PX.G [(.e 59 (.sc (.bool (decide ((q:Int)<(((curD (b.ops.take k)).length:Nat):Int))))))] [] 3 [] [] [.au] [7,9,56,57,58,59] [2] hS hE trivial fun a w hS=>?_
  refine wp_seq_k fun K6 hK6=>?_
  refine PX.cond_s (decide ((q:Int)<(((curD (b.ops.take k)).length:Nat):Int))) hS (by kernel_rfl) (fun h7=>?_) (fun h7=>?_)
  ·skip
   refine wp_skip ?_
   refine hK6 _ _ ?_
   refine wp_seq_k fun K8 hK8=>?_
   refine wp_block ?_
   have hltx:q<(curD (b.ops.take k)).length:=by have:=of_decide_eq_true h7; omega
   obtain ⟨x,hx⟩:=get_of_lt hltx
   refine PX.G [(.e 11 (.ptr 3 0))] [(3,.box 74 (encO x))] 4 [.q ((q:Int)=(q:Int)),.q (((curD (b.ops.take k)).map encO)[q]?=some (encO x))] [] [.ix q (encO x),.au,.au,.au] [7,9,11,56,57,58] [2,3] hS hE ⟨rfl,PX.map_get hx,trivial⟩ fun a w hS=>?_
   refine PX.G [(.e 72 (.sc (.bool ((x.sk==2)&&(((aheadD b k)).contains x.sv)))))] [] 4 [.q (SX.pv [(4,(x.sk==2))] [(4,true)]=true→PX.AllOb [.q (PX.Con Try.prog 71 [(.imm 1 ((aheadD b k).map encI)),(.J x.sv)] [] 4 4 (.sc (.bool (((aheadD b k)).contains x.sv))) [])])] [(4,(x.sk==2))] [.au,.au,.au,.au,.au,.au,.au,.au,.au,.cl [] (.sc (.bool (((aheadD b k)).contains x.sv))) [] 4,.pk] [7,9,11,56,57,58,72] [2,3] hS hE ⟨fun hg=>⟨PX.con_any (con_f71 (aheadD b k) (by unfold aheadD; have:=dsts_len (b.ops.take k); simp [upto_len2] at this ⊢; omega) x.sv),trivial⟩,trivial⟩ fun a w hS=>?_
   refine PX.cond_s ((x.sk==2)&&(((aheadD b k)).contains x.sv)) hS (by kernel_rfl) (fun h9=>?_) (fun h9=>?_)
   ·skip
    refine PX.G0 [(.e 7 (.own 5 1 ((((uA y++uB y)++(((curD (b.ops.take k)).take (q)).filter (fun x=>x.sk==2&&(aheadD b k).contains x.sv)).map (·.sv)).map encI:List (List PX.PV)).length+1)))] [(5,.row 3 1 true (((uA y++uB y)++(((curD (b.ops.take k)).take (q)).filter (fun x=>x.sk==2&&(aheadD b k).contains x.sv)).map (·.sv)).map encI++[[(.J x.sv)]]))] 6 [.b (lenIs (((uA y++uB y)++(((curD (b.ops.take k)).take (q)).filter (fun x=>x.sk==2&&(aheadD b k).contains x.sv)).map (·.sv)).length) (((uA y++uB y)++(((curD (b.ops.take k)).take (q)).filter (fun x=>x.sk==2&&(aheadD b k).contains x.sv)).map (·.sv)).map encI)),.b (lenIs 1 ([[(.J x.sv)]])),.b (Nat.ble ((((uA y++uB y)++(((curD (b.ops.take k)).take (q)).filter (fun x=>x.sk==2&&(aheadD b k).contains x.sv)).map (·.sv)).map encI:List (List PX.PV)).length+1) 1000000000)] [] [.au,.au,.au,.au,.au,.au,.au] [7,9,56,57,58] [5] hS hE ⟨by simp [PX.lenIs],rfl,by rw [Nat.ble_eq]; have h1:=uA_len y; have h2:=uB_len y; have h3:=hfl q; simp only [List.length_append,List.length_map]; omega,trivial⟩ fun a w hS=>?_
    refine hK8 _ _ ?_
    refine PX.G0 [(.e 58 (.sc (.I ((q+1:Nat):Int))))] [] 6 [.q ((.sc (.I (IntKind.i64.wrap ((q:Int)+1))):PX.PV)=(.sc (.I ((q+1:Nat):Int))))] [] [.nm (.sc (.I ((q+1:Nat):Int))),.au] [7,9,56,57,58] [5] hS hE ⟨PX.nm_int (by rw [IntWalk.i64_in _ (by omega)]; omega),trivial⟩ fun a w hS=>?_
    replace hS:=PX.sl [7,9,56,57,58] (PX.reslot (t:=7) (.own 5 1 (((uA y++uB y)++(((curD (b.ops.take k)).take (q+1)).filter (fun x=>x.sk==2&&(aheadD b k).contains x.sv)).map (·.sv)).length)) hS rfl (fun _ _ _ _ h=>(show (.own 5 1 ((((uA y++uB y)++(((curD (b.ops.take k)).take (q)).filter (fun x=>x.sk==2&&(aheadD b k).contains x.sv)).map (·.sv)).map encI:List (List PX.PV)).length+1):PX.PV)=.own 5 1 ((uA y++uB y)++(((curD (b.ops.take k)).take (q+1)).filter (fun x=>x.sk==2&&(aheadD b k).contains x.sv)).map (·.sv)).length from by rw [List.take_add_one,hx,List.filter_append]; simp only [Option.toList_some,List.filter_cons,List.filter_nil]; rw [if_pos (by exact h9)]; simp <;> omega) ▸ h))
    replace hS:=PX.rerow (id:=5) (((uA y++uB y)++(((curD (b.ops.take k)).take (q+1)).filter (fun x=>x.sk==2&&(aheadD b k).contains x.sv)).map (·.sv)).map encI) hS rfl (by rw [List.take_add_one,hx,List.filter_append]; simp only [Option.toList_some,List.filter_cons,List.filter_nil]; rw [if_pos (by exact h9)]; simp [encI])
    exact ⟨(curD (b.ops.take k)).length-(q+1),by omega,q+1,rfl,by omega,trivial,(PX.cn [(2,5)] _ _ 3 hS hE)⟩
   ·skip
    refine wp_skip ?_
    refine hK8 _ _ ?_
    refine PX.G0 [(.e 58 (.sc (.I ((q+1:Nat):Int))))] [] 4 [.q ((.sc (.I (IntKind.i64.wrap ((q:Int)+1))):PX.PV)=(.sc (.I ((q+1:Nat):Int))))] [] [.nm (.sc (.I ((q+1:Nat):Int))),.au] [7,9,56,57,58] [2] hS hE ⟨PX.nm_int (by rw [IntWalk.i64_in _ (by omega)]; omega),trivial⟩ fun a w hS=>?_
    replace hS:=PX.sl [7,9,56,57,58] (PX.reslot (t:=7) (.own 2 1 (((uA y++uB y)++(((curD (b.ops.take k)).take (q+1)).filter (fun x=>x.sk==2&&(aheadD b k).contains x.sv)).map (·.sv)).length)) hS rfl (fun _ _ _ _ h=>(show (.own 2 1 (((uA y++uB y)++(((curD (b.ops.take k)).take (q)).filter (fun x=>x.sk==2&&(aheadD b k).contains x.sv)).map (·.sv)).length):PX.PV)=.own 2 1 ((uA y++uB y)++(((curD (b.ops.take k)).take (q+1)).filter (fun x=>x.sk==2&&(aheadD b k).contains x.sv)).map (·.sv)).length from by rw [List.take_add_one,hx,List.filter_append]; simp only [Option.toList_some,List.filter_cons,List.filter_nil]; rw [if_neg (by rw [h9]; simp)]; simp <;> omega) ▸ h))
    replace hS:=PX.rerow (id:=2) (((uA y++uB y)++(((curD (b.ops.take k)).take (q+1)).filter (fun x=>x.sk==2&&(aheadD b k).contains x.sv)).map (·.sv)).map encI) hS rfl (by rw [List.take_add_one,hx,List.filter_append]; simp only [Option.toList_some,List.filter_cons,List.filter_nil]; rw [if_neg (by rw [h9]; simp)]; simp [encI])
    exact ⟨(curD (b.ops.take k)).length-(q+1),by omega,q+1,rfl,by omega,trivial,(PX.cn [] _ _ 3 hS hE)⟩
  ·skip
   refine wp_exit ?_
   refine hK3 _ _ ?_
   have hq0:q=(curD (b.ops.take k)).length:=by have:=le_of_dec h7; omega
   rw [hq0,List.take_length] at hS
   replace hS:=PX.rerow (id:=2) ((usesR b k keep y).map encI) hS rfl (by unfold usesR; rw [if_pos (show (keep&&(y.kind==19||y.kind==20))=true from h4)])
   replace hS:=PX.sl [7,9,56,57,58,59] (PX.reslot (t:=7) (.own 2 1 ((usesR b k keep y).length)) hS rfl (fun _ _ _ _ h=>(show (.own 2 1 ((uA y++uB y)++((curD (b.ops.take k)).filter (fun x=>x.sk==2&&(aheadD b k).contains x.sv)).map (·.sv)).length:PX.PV)=.own 2 1 (usesR b k keep y).length from by unfold usesR; rw [if_pos (show (keep&&(y.kind==19||y.kind==20))=true from h4)]) ▸ h))
   refine PX.G [(.e 6 (.own 2 1 ((usesR b k keep y).length)))] [] 3 [] [] [.au,.au] [6] [2] hS hE trivial fun a w hS=>?_
   replace hS:=PX.fz 2 [(.e 6 (.imm 1 ((usesR b k keep y).map encI)))] [] [6] [] [.b (PX.lenIs ((usesR b k keep y).length) ((usesR b k keep y).map encI))] hS ⟨(by simp [PX.lenIs]),trivial⟩
   refine wp_ret ?_
   rw [show (.imm 1 ((usesR b k keep y).map encI))=((.imm 1 ((usesR b k keep y).map encI)):PX.PV) from rfl]
   exact PX.rt hS hE (.inl rfl)
 ·skip
  refine wp_skip ?_
  refine hK3 _ _ ?_
  replace hS:=PX.rerow (id:=2) ((usesR b k keep y).map encI) hS rfl (by unfold usesR; rw [if_neg (show ¬ (keep&&(y.kind==19||y.kind==20))=true by rw [h4]; simp),List.append_nil])
  replace hS:=PX.sl [1,3,7,43] (PX.reslot (t:=7) (.own 2 1 ((usesR b k keep y).length)) hS rfl (fun _ _ _ _ h=>(show (.own 2 1 (uA y++uB y).length:PX.PV)=.own 2 1 (usesR b k keep y).length from by unfold usesR; rw [if_neg (show ¬ (keep&&(y.kind==19||y.kind==20))=true by rw [h4]; simp),List.append_nil]) ▸ h))
  refine PX.G [(.e 6 (.own 2 1 ((usesR b k keep y).length)))] [] 4 [] [] [.au,.au] [6] [2] hS hE trivial fun a w hS=>?_
  replace hS:=PX.fz 2 [(.e 6 (.imm 1 ((usesR b k keep y).map encI)))] [] [6] [] [.b (PX.lenIs ((usesR b k keep y).length) ((usesR b k keep y).map encI))] hS ⟨(by simp [PX.lenIs]),trivial⟩
  refine wp_ret ?_
  rw [show (.imm 1 ((usesR b k keep y).map encI))=((.imm 1 ((usesR b k keep y).map encI)):PX.PV) from rfl]
  exact PX.rt hS hE (.inl rfl)

set_option maxHeartbeats 2000000 in
theorem con_f107 (b:BlockD) (keep:Bool) (n:Nat) (hn:topD b+1=(n:Int)) (hnn:n≤10000) (hb:0≤b.params∧b.params≤999) (hl:b.ops.length≤6000) (hal:b.term.args.length≤1000∧b.term.args0.length≤1000∧b.term.args1.length≤1000) (hdst:∀ o∈b.ops,R.defines o.kind=true→0≤o.dst∧o.dst<(n:Int)) (huse:∀ k y,b.ops[k]?=some y→∀ v∈usesR b k keep y,0≤v∧v<(n:Int)) (hend:∀ v∈endsR b.term,0≤v∧v<(n:Int)):PX.Con Try.prog 107 [(.agg (encB b)),(.sc (.bool keep))] [] 1 100000 (.imm 1 ((lastR keep b).map encI)) []:=by
 refine PX.con_intro [(.agg (encB b)),(.sc (.bool keep))] 73 Try.func107 rfl rfl (by kernel_rfl) (by kernel_rfl) ?_
 intro E a hE hS
 generalize E.w0=w at hS ⊢
 have mix:=mixed
 refine PX.G [(.e 2 (.ptr 1 0))] [(1,.box 62 (encB b))] 2 [] [] [.au,.au] [1,2] [1] hS hE trivial fun a w hS=>?_
 refine PX.G [(.e 5 (.own 2 1 n))] [(2,.row 3 1 true (List.replicate n [(.J 0)]))] 3 [.q (PX.Con Try.prog 137 [(.agg (encB b))] [] 2 2 (.sc (.I (topD b))) []),.q ((.sc (.I (IntKind.i64.wrap ((topD b)+1))):PX.PV)=(.sc (.I (n:Int)))),.q ((n:Int)=(n:Nat)),.q ((n:Int)=(n:Nat)),.b (Nat.ble n 1000000000)] [] [.au,.cl [] (.sc (.I (topD b))) [] 2,.nm (.sc (.I (n:Int))),.mk n,.au] [1,2,5] [1,2] hS hE ⟨PX.con_any (con_f137 b hb (by omega)),PX.nm_int (by rw [IntWalk.i64_in _ (by omega)]; omega),rfl,rfl,by rw [Nat.ble_eq]; omega,trivial⟩ fun a w hS=>?_
 refine wp_seq_k fun K1 hK1=>?_
 refine PX.G [(.e 18 (.sc (.I (n:Int)))),(.e 19 (.J 0))] [] 3 [] [] [.au,.au,.au] [1,2,5,18,19] [1,2] hS hE trivial fun a w hS=>?_
 refine wp_block ?_
 replace hS:=PX.rerow (id:=2) ((List.replicate (0) (-1:Int)++List.replicate (n-(0)) 0).map encI) hS rfl (by simp [encI])
 refine wp_loop_ghost (fun m2 a' w'=>∃ k:Nat,m2=n-k∧k≤n∧True∧PX.Sat E 73 [(.e 1 (.sc (.bool keep))),(.e 2 (.ptr 1 0)),(.e 5 (.own 2 1 n)),(.e 18 (.sc (.I (n:Int)))),(.e 19 (.sc (.I (k:Int))))] [(1,.box 62 (encB b)),(2,.row 3 1 true ((List.replicate (k) (-1:Int)++List.replicate (n-(k)) 0).map encI))] 3 a' w') (n-0) ⟨0,rfl,Nat.zero_le _,trivial,(PX.cn [] _ _ 3 hS hE)⟩ ?_
 clear hS; rintro m2 a w ⟨k,hm2,hlek,hIk,hS⟩
 refine PX.G [(.e 20 (.sc (.bool (decide ((k:Int)<(n:Int))))))] [] 3 [] [] [.au] [1,2,5,18,19,20] [1,2] hS hE trivial fun a w hS=>?_
 refine wp_seq_k fun K3 hK3=>?_
 refine PX.cond_s (decide ((k:Int)<(n:Int))) hS (by kernel_rfl) (fun h4=>?_) (fun h4=>?_)
 ·skip
  refine wp_skip ?_
  refine hK3 _ _ ?_
  refine wp_seq_k fun K5 hK5=>?_
  refine wp_block ?_
  have hlt:k<n:=by simpa using h4
  refine PX.G [(.e 6 (.sc (.I (k:Int))))] [] 3 [] [] [.au,.au] [1,2,5,6,18,19] [1,2] hS hE trivial fun a w hS=>?_
  obtain ⟨z,hz⟩:=get_of_lt (show k<((List.replicate (k) (-1:Int)++List.replicate (n-(k)) 0)).length by simp; omega)
  refine PX.G0 [] [(2,.row 3 1 true (((List.replicate (k) (-1:Int)++List.replicate (n-(k)) 0).map encI).set k [(.sc (.I (-1)))]))] 3 [.q ((k:Int)=(k:Int)),.q (k<n),.q (((List.replicate (k) (-1:Int)++List.replicate (n-(k)) 0).map encI)[k]?=some (encI z))] [] [.au,.au,.ix k [],.lr (encI z)] [1,2,5,18,19] [1,2] hS hE ⟨rfl,hlt,PX.map_get hz,trivial⟩ fun a w hS=>?_
  refine hK5 _ _ ?_
  refine PX.G0 [(.e 19 (.sc (.I ((k+1:Nat):Int))))] [] 3 [.q ((.sc (.I (IntKind.i64.wrap ((k:Int)+1))):PX.PV)=(.sc (.I ((k+1:Nat):Int))))] [] [.nm (.sc (.I ((k+1:Nat):Int))),.au] [1,2,5,18,19] [1,2] hS hE ⟨PX.nm_int (by rw [IntWalk.i64_in _ (by omega)]; omega),trivial⟩ fun a w hS=>?_
  replace hS:=PX.rerow (id:=2) ((List.replicate (k+1) (-1:Int)++List.replicate (n-(k+1)) 0).map encI) hS rfl (set_minus (by omega))
  exact ⟨n-(k+1),by omega,k+1,rfl,by omega,trivial,(PX.cn [] _ _ 3 hS hE)⟩
 ·skip
  refine wp_exit ?_
  refine hK1 _ _ ?_
  refine wp_seq_k fun K6 hK6=>?_
  refine PX.G [(.e 27 (.imm 11 (b.ops.map encO))),(.e 28 (.sc (.I (b.ops.length:Int)))),(.e 29 (.J 0))] [] 3 [.q ((.sc (.I (((b.ops.map encO).length:Nat):Int)):PX.PV)=(.sc (.I (b.ops.length:Int))))] [] [.au,.au,.nm (.sc (.I (b.ops.length:Int))),.au] [1,2,5,27,28,29] [1,2] hS hE ⟨PX.nm_len (by simp),trivial⟩ fun a w hS=>?_
  refine wp_block ?_
  have hk0:k=n:=by have:=le_of_dec h4; omega
  rw [hk0] at hS
  replace hS:=PX.rerow (id:=2) ((lastK keep b (0)).map encI) hS rfl (by simp [lastK,hn])
  refine wp_loop_ghost (fun m7 a' w'=>∃ m:Nat,m7=b.ops.length-m∧m≤b.ops.length∧True∧PX.Sat E 73 [(.e 1 (.sc (.bool keep))),(.e 2 (.ptr 1 0)),(.e 5 (.own 2 1 n)),(.e 27 (.imm 11 (b.ops.map encO))),(.e 28 (.sc (.I (b.ops.length:Int)))),(.e 29 (.sc (.I (m:Int))))] [(1,.box 62 (encB b)),(2,.row 3 1 true ((lastK keep b (m)).map encI))] 3 a' w') (b.ops.length-0) ⟨0,rfl,Nat.zero_le _,trivial,(PX.cn [] _ _ 3 hS hE)⟩ ?_
  clear hS; rintro m7 a w ⟨m,hm7,hlem,hIm,hS⟩
  refine PX.G [(.e 30 (.sc (.bool (decide ((m:Int)<(b.ops.length:Int))))))] [] 3 [] [] [.au] [1,2,5,27,28,29,30] [1,2] hS hE trivial fun a w hS=>?_
  refine wp_seq_k fun K8 hK8=>?_
  refine PX.cond_s (decide ((m:Int)<(b.ops.length:Int))) hS (by kernel_rfl) (fun h9=>?_) (fun h9=>?_)
  ·skip
   refine wp_skip ?_
   refine hK8 _ _ ?_
   refine wp_seq_k fun K10 hK10=>?_
   refine wp_block ?_
   have hlty:m<b.ops.length:=by simpa using h9
   obtain ⟨y,hy⟩:=get_of_lt hlty
   have hul:=usesR_len b m keep y
   have hLn:(lastK keep b (m)).length=n:=by rw [lastK_len]; omega
   refine PX.G [(.e 7 (.sc (.I (m:Int)))),(.e 8 (.ptr 3 0))] [(3,.box 74 (encO y))] 4 [.q ((m:Int)=(m:Int)),.q ((b.ops.map encO)[m]?=some (encO y))] [] [.au,.ix m (encO y),.au,.au,.au,.au] [1,2,5,7,8,27,28,29] [1,2,3] hS hE ⟨rfl,PX.map_get hy,trivial⟩ fun a w hS=>?_
   refine PX.seq_cut (E:=E) (N:=73) (T:=[(.e 1 (.sc (.bool keep))),(.e 2 (.ptr 1 0)),(.e 5 (.own 2 1 n)),(.e 7 (.sc (.I (m:Int)))),(.e 27 (.imm 11 (b.ops.map encO))),(.e 28 (.sc (.I (b.ops.length:Int)))),(.e 29 (.sc (.I (m:Int))))]) (H:=[(1,.box 62 (encB b)),(2,.row 3 1 true ((defI (lastK keep b (m)) y m).map encI))]) (nx:=4) ?_ ?_
   ·skip
    refine PX.G [(.e 36 (.sc (.bool (R.defines y.kind))))] [] 4 [.q (PX.Con Try.prog 90 [(.J y.kind)] [] 4 4 (.sc (.bool (R.defines y.kind))) [])] [] [.au,.au,.cl [] (.sc (.bool (R.defines y.kind))) [] 4] [1,2,5,7,8,27,28,29,36] [1,2,3] hS hE ⟨PX.con_any (con_f90 y.kind),trivial⟩ fun a w hS=>?_
    refine PX.cond_s (R.defines y.kind) hS (by kernel_rfl) (fun h11=>?_) (fun h11=>?_)
    ·skip
     have hd:=hdst y (List.mem_of_getElem? hy) h11
     obtain ⟨z,hz⟩:=get_of_lt (show y.dst.toNat<((lastK keep b (m))).length by omega)
     refine PX.G0 [] [(2,.row 3 1 true (((lastK keep b (m)).map encI).set y.dst.toNat [(.sc (.I (m:Int)))]))] 4 [.q (y.dst=(y.dst.toNat:Int)),.q (y.dst.toNat<n),.q (((lastK keep b (m)).map encI)[y.dst.toNat]?=some (encI z))] [] [.au,.au,.au,.au,.ix y.dst.toNat [],.lr (encI z)] [1,2,5,7,27,28,29] [1,2] hS hE ⟨by omega,by omega,PX.map_get hz,trivial⟩ fun a w hS=>?_
     replace hS:=PX.rerow (id:=2) ((defI (lastK keep b (m)) y m).map encI) hS rfl (by unfold defI; rw [if_pos h11]; rw [List.map_set]; rfl)
     exact (PX.cn [] _ _ 4 hS hE)
    ·skip
     refine wp_skip ?_
     replace hS:=PX.rerow (id:=2) ((defI (lastK keep b (m)) y m).map encI) hS rfl (by unfold defI; rw [if_neg (by rw [h11]; simp)])
     replace hS:=PX.sl [1,2,5,7,27,28,29] hS
     exact (PX.cn [] _ _ 4 hS hE)
   clear hS; intro a w hS
   refine PX.G [(.e 45 (.imm 1 ((usesR b m keep y).map encI))),(.e 46 (.sc (.I (((usesR b m keep y).length:Nat):Int)))),(.e 47 (.J 0))] [] 4 [.q (PX.Con Try.prog 145 [(.agg (encB b)),(.sc (.I (m:Int))),(.sc (.bool keep))] [] 4 4 (.imm 1 ((usesR b m keep y).map encI)) []),.q ((.sc (.I ((((usesR b m keep y).map encI).length:Nat):Int)):PX.PV)=(.sc (.I (((usesR b m keep y).length:Nat):Int))))] [] [.au,.au,.au,.cl [] (.imm 1 ((usesR b m keep y).map encI)) [] 4,.nm (.sc (.I (((usesR b m keep y).length:Nat):Int))),.au] [1,2,5,7,27,28,29,45,46,47] [1,2] hS hE ⟨PX.con_any (con_f145 b m y keep hy hb hl),PX.nm_len (by simp),trivial⟩ fun a w hS=>?_
   refine wp_block ?_
   replace hS:=PX.rerow (id:=2) ((setAll (defI (lastK keep b (m)) y m) m ((usesR b m keep y).take (0))).map encI) hS rfl (rfl)
   refine wp_loop_ghost (fun m12 a' w'=>∃ j:Nat,m12=(usesR b m keep y).length-j∧j≤(usesR b m keep y).length∧True∧PX.Sat E 73 [(.e 1 (.sc (.bool keep))),(.e 2 (.ptr 1 0)),(.e 5 (.own 2 1 n)),(.e 7 (.sc (.I (m:Int)))),(.e 27 (.imm 11 (b.ops.map encO))),(.e 28 (.sc (.I (b.ops.length:Int)))),(.e 29 (.sc (.I (m:Int)))),(.e 45 (.imm 1 ((usesR b m keep y).map encI))),(.e 46 (.sc (.I (((usesR b m keep y).length:Nat):Int)))),(.e 47 (.sc (.I (j:Int))))] [(1,.box 62 (encB b)),(2,.row 3 1 true ((setAll (defI (lastK keep b (m)) y m) m ((usesR b m keep y).take (j))).map encI))] 3 a' w') ((usesR b m keep y).length-0) ⟨0,rfl,Nat.zero_le _,trivial,(PX.cn [] _ _ 3 hS hE)⟩ ?_
   clear hS; rintro m12 a w ⟨j,hm12,hlej,hIj,hS⟩
   refine PX.G [(.e 48 (.sc (.bool (decide ((j:Int)<(((usesR b m keep y).length:Nat):Int))))))] [] 3 [] [] [.au] [1,2,5,7,27,28,29,45,46,47,48] [1,2] hS hE trivial fun a w hS=>?_
   refine wp_seq_k fun K13 hK13=>?_
   refine PX.cond_s (decide ((j:Int)<(((usesR b m keep y).length:Nat):Int))) hS (by kernel_rfl) (fun h14=>?_) (fun h14=>?_)
   ·skip
    refine wp_skip ?_
    refine hK13 _ _ ?_
    refine wp_seq_k fun K15 hK15=>?_
    refine wp_block ?_
    have hltx:j<(usesR b m keep y).length:=by simpa using h14
    obtain ⟨x,hx⟩:=get_of_lt hltx
    have hx2:=huse m y hy x (List.mem_of_getElem? hx)
    refine PX.G [(.e 10 (.J x))] [] 3 [.q ((j:Int)=(j:Int)),.q (((usesR b m keep y).map encI)[j]?=some (encI x))] [] [.ix j (encI x),.au,.au] [1,2,5,7,10,27,28,29,45,46,47] [1,2] hS hE ⟨rfl,PX.map_get hx,trivial⟩ fun a w hS=>?_
    obtain ⟨z,hz⟩:=get_of_lt (show x.toNat<((setAll (defI (lastK keep b (m)) y m) m ((usesR b m keep y).take (j)))).length by rw [setAll_len,defI_len]; omega)
    refine PX.G0 [] [(2,.row 3 1 true (((setAll (defI (lastK keep b (m)) y m) m ((usesR b m keep y).take (j))).map encI).set x.toNat [(.sc (.I (m:Int)))]))] 3 [.q (x=(x.toNat:Int)),.q (x.toNat<n),.q (((setAll (defI (lastK keep b (m)) y m) m ((usesR b m keep y).take (j))).map encI)[x.toNat]?=some (encI z))] [] [.au,.au,.au,.ix x.toNat [],.lr (encI z)] [1,2,5,7,27,28,29,45,46,47] [1,2] hS hE ⟨by omega,by omega,PX.map_get hz,trivial⟩ fun a w hS=>?_
    refine hK15 _ _ ?_
    refine PX.G0 [(.e 47 (.sc (.I ((j+1:Nat):Int))))] [] 3 [.q ((.sc (.I (IntKind.i64.wrap ((j:Int)+1))):PX.PV)=(.sc (.I ((j+1:Nat):Int))))] [] [.nm (.sc (.I ((j+1:Nat):Int))),.au] [1,2,5,7,27,28,29,45,46,47] [1,2] hS hE ⟨PX.nm_int (by rw [IntWalk.i64_in _ (by omega)]; omega),trivial⟩ fun a w hS=>?_
    replace hS:=PX.rerow (id:=2) ((setAll (defI (lastK keep b (m)) y m) m ((usesR b m keep y).take (j+1))).map encI) hS rfl (by rw [setAll_take hx,List.map_set]; rfl)
    exact ⟨(usesR b m keep y).length-(j+1),by omega,j+1,rfl,by omega,trivial,(PX.cn [] _ _ 3 hS hE)⟩
   ·skip
    refine wp_exit ?_
    refine hK10 _ _ ?_
    refine PX.G0 [(.e 29 (.sc (.I ((m+1:Nat):Int))))] [] 3 [.q ((.sc (.I (IntKind.i64.wrap ((m:Int)+1))):PX.PV)=(.sc (.I ((m+1:Nat):Int))))] [] [.nm (.sc (.I ((m+1:Nat):Int))),.au] [1,2,5,27,28,29] [1,2] hS hE ⟨PX.nm_int (by rw [IntWalk.i64_in _ (by omega)]; omega),trivial⟩ fun a w hS=>?_
    have hj0:j=(usesR b m keep y).length:=by have:=le_of_dec h14; omega
    rw [hj0,List.take_length] at hS
    replace hS:=PX.rerow (id:=2) ((lastK keep b (m+1)).map encI) hS rfl (by rw [lastK_succ hy])
    exact ⟨b.ops.length-(m+1),by omega,m+1,rfl,by omega,trivial,(PX.cn [] _ _ 3 hS hE)⟩
  ·skip
   refine wp_exit ?_
   refine hK6 _ _ ?_
   refine wp_seq_k fun K16 hK16=>?_
   have hm0:m=b.ops.length:=by have:=le_of_dec h9; omega
   rw [hm0] at hS
   have hel:=endsR_len b.term
   have hLe:(lastK keep b (b.ops.length)).length=n:=by rw [lastK_len]; omega
   refine PX.G [(.e 59 (.imm 1 ((endsR b.term).map encI))),(.e 60 (.sc (.I (((endsR b.term).length:Nat):Int)))),(.e 61 (.J 0))] [] 3 [.q (PX.Con Try.prog 146 [(.agg [(.J b.term.kind),(.J b.term.a),(.J b.term.n),(.imm 1 (b.term.args.map encI)),(.J b.term.b0),(.imm 1 (b.term.args0.map encI)),(.J b.term.b1),(.imm 1 (b.term.args1.map encI))])] [] 3 3 (.imm 1 ((endsR b.term).map encI)) []),.q ((.sc (.I ((((endsR b.term).map encI).length:Nat):Int)):PX.PV)=(.sc (.I (((endsR b.term).length:Nat):Int))))] [] [.au,.au,.cl [] (.imm 1 ((endsR b.term).map encI)) [] 3,.nm (.sc (.I (((endsR b.term).length:Nat):Int))),.au] [2,5,59,60,61] [1,2] hS hE ⟨PX.con_any (con_f146 b.term (by omega) (by omega) (by omega)),PX.nm_len (by simp),trivial⟩ fun a w hS=>?_
   refine wp_block ?_
   replace hS:=PX.rerow (id:=2) ((setAll (lastK keep b (b.ops.length)) b.ops.length ((endsR b.term).take (0))).map encI) hS rfl (rfl)
   refine wp_loop_ghost (fun m17 a' w'=>∃ e:Nat,m17=(endsR b.term).length-e∧e≤(endsR b.term).length∧True∧PX.Sat E 73 [(.e 2 (.ptr 1 0)),(.e 5 (.own 2 1 n)),(.e 59 (.imm 1 ((endsR b.term).map encI))),(.e 60 (.sc (.I (((endsR b.term).length:Nat):Int)))),(.e 61 (.sc (.I (e:Int))))] [(1,.box 62 (encB b)),(2,.row 3 1 true ((setAll (lastK keep b (b.ops.length)) b.ops.length ((endsR b.term).take (e))).map encI))] 3 a' w') ((endsR b.term).length-0) ⟨0,rfl,Nat.zero_le _,trivial,(PX.cn [] _ _ 3 hS hE)⟩ ?_
   clear hS; rintro m17 a w ⟨e,hm17,hlee,hIe,hS⟩
   refine PX.G [(.e 62 (.sc (.bool (decide ((e:Int)<(((endsR b.term).length:Nat):Int))))))] [] 3 [] [] [.au] [2,5,59,60,61,62] [1,2] hS hE trivial fun a w hS=>?_
   refine wp_seq_k fun K18 hK18=>?_
   refine PX.cond_s (decide ((e:Int)<(((endsR b.term).length:Nat):Int))) hS (by kernel_rfl) (fun h19=>?_) (fun h19=>?_)
   ·skip
    refine wp_skip ?_
    refine hK18 _ _ ?_
    refine wp_seq_k fun K20 hK20=>?_
    refine wp_block ?_
    have hltx:e<(endsR b.term).length:=by simpa using h19
    obtain ⟨x,hx⟩:=get_of_lt hltx
    have hx2:=hend x (List.mem_of_getElem? hx)
    refine PX.G [(.e 12 (.J x))] [] 3 [.q ((e:Int)=(e:Int)),.q (((endsR b.term).map encI)[e]?=some (encI x))] [] [.ix e (encI x),.au,.au] [2,5,12,59,60,61] [1,2] hS hE ⟨rfl,PX.map_get hx,trivial⟩ fun a w hS=>?_
    obtain ⟨z,hz⟩:=get_of_lt (show x.toNat<((setAll (lastK keep b (b.ops.length)) b.ops.length ((endsR b.term).take (e)))).length by rw [setAll_len]; omega)
    refine PX.G0 [] [(2,.row 3 1 true (((setAll (lastK keep b (b.ops.length)) b.ops.length ((endsR b.term).take (e))).map encI).set x.toNat [(.sc (.I (b.ops.length:Int)))]))] 3 [.q ((.sc (.I (((b.ops.map encO).length:Nat):Int)):PX.PV)=(.sc (.I (b.ops.length:Int)))),.q (x=(x.toNat:Int)),.q (x.toNat<n),.q (((setAll (lastK keep b (b.ops.length)) b.ops.length ((endsR b.term).take (e))).map encI)[x.toNat]?=some (encI z))] [] [.au,.au,.au,.au,.nm (.sc (.I (b.ops.length:Int))),.ix x.toNat [],.lr (encI z)] [2,5,59,60,61] [1,2] hS hE ⟨PX.nm_len (by simp),by omega,by omega,PX.map_get hz,trivial⟩ fun a w hS=>?_
    refine hK20 _ _ ?_
    refine PX.G0 [(.e 61 (.sc (.I ((e+1:Nat):Int))))] [] 3 [.q ((.sc (.I (IntKind.i64.wrap ((e:Int)+1))):PX.PV)=(.sc (.I ((e+1:Nat):Int))))] [] [.nm (.sc (.I ((e+1:Nat):Int))),.au] [2,5,59,60,61] [1,2] hS hE ⟨PX.nm_int (by rw [IntWalk.i64_in _ (by omega)]; omega),trivial⟩ fun a w hS=>?_
    replace hS:=PX.rerow (id:=2) ((setAll (lastK keep b (b.ops.length)) b.ops.length ((endsR b.term).take (e+1))).map encI) hS rfl (by rw [setAll_take hx,List.map_set]; rfl)
    exact ⟨(endsR b.term).length-(e+1),by omega,e+1,rfl,by omega,trivial,(PX.cn [] _ _ 3 hS hE)⟩
   ·skip
    refine wp_exit ?_
    refine hK16 _ _ ?_
    refine PX.G [(.e 4 (.own 2 1 n))] [] 3 [] [] [.au,.au] [4] [2] hS hE trivial fun a w hS=>?_
    have he0:e=(endsR b.term).length:=by have:=le_of_dec h19; omega
    rw [he0,List.take_length] at hS
    replace hS:=PX.sl [4] hS
    replace hS:=PX.fz 2 [(.e 4 (.imm 1 ((setAll (lastK keep b (b.ops.length)) b.ops.length (endsR b.term)).map encI)))] [] [4] [] [.b (PX.lenIs n ((setAll (lastK keep b (b.ops.length)) b.ops.length (endsR b.term)).map encI))] hS ⟨(by simp [PX.lenIs,setAll_len]; omega),trivial⟩
    refine wp_ret ?_
    rw [show (.imm 1 ((lastR keep b).map encI))=((.imm 1 ((setAll (lastK keep b (b.ops.length)) b.ops.length (endsR b.term)).map encI)):PX.PV) from rfl]
    exact PX.rt hS hE (.inl rfl)
end Go.Proofs.Ytlkcidmmpeebeaa
