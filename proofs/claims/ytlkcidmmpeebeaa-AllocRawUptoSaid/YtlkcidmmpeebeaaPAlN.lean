/- Proved: the document's block -/
import Derived.Test.YtlkcidmmpeebeaaPcL
import Derived.Test.YtlkcidmmpeebeaaPAlF
set_option linter.unusedVariables false
set_option linter.unusedSimpArgs false
namespace Go.Proofs.Ytlkcidmmpeebeaa
open Go.RowKit Go.PX
set_option maxRecDepth 100000
def regR (l:List PlaceD) (la:List Int) (k:Int):Option Nat:=(List.range 12).find? fun i=>!takenD l la (2,((i+1:Nat):Int),0) k
def slotR (l:List PlaceD) (la:List Int) (first k:Int) (m:Nat):Option Nat:=(List.range (m+1)).find? fun i=>!takenD l la (3,first+(i:Int),0) k
/-- the places,and how many slots -/
def opR (la:List Int) (first:Int) (s:List PlaceD × Nat) (p:OpD × Nat):List PlaceD × Nat :=
 if R.defines p.1.kind=true then
  (match regR s.1 la p.2 with
  | some r=>(s.1.set p.1.dst.toNat (2,((r+1:Nat):Int),0),s.2)
  | none=>match slotR s.1 la first p.2 s.2 with
   | some q=>(s.1.set p.1.dst.toNat (3,first+(q:Int),0),max s.2 (q+1))
   | none=>s)
 else s
def parR (n:Nat):Nat→List PlaceD
 | 0=>List.replicate n (0,0,0)
 | v+1=>(parR n v).set v (paramD v)
theorem parR_len (n:Nat):∀ v,(parR n v).length=n
 | 0=>by simp [parR]
 | v+1=>by unfold parR; simp [parR_len n v]
def opsR (la:List Int) (n:Nat) (first:Int) (b:BlockD) (q:Nat):List PlaceD × Nat:=(b.ops.take q).zipIdx.foldl (opR la first) (parR n b.params.toNat,0)
theorem opsR_succ {la:List Int} {n:Nat} {first:Int} {b:BlockD} {q:Nat} {y:OpD} (hy:b.ops[q]?=some y):opsR la n first b (q+1)=opR la first (opsR la n first b q) (y,q):=by
 unfold opsR; rw [fold_take _ _ hy]
/-- every slot that is in use lies below the number of slots -/
def SlotsOk (first:Int) (s:List PlaceD × Nat):Prop:=∀ p∈s.1,p.1=3→p.2.2=0→p.2.1<first+(s.2:Int)
theorem taken_no {l:List PlaceD} {la:List Int} {p:PlaceD} {k:Int} (h:∀ q∈l,q≠p) (h0:(0,0,0)≠p):takenD l la p k=false:=by
 refine any_range_no fun i hi=>?_
 have:eqPl (getPl l i) p=false:=by
  rw [← Bool.not_eq_true]
  intro he
  unfold eqPl at he
  simp only [Bool.and_eq_true,beq_iff_eq] at he
  have e:getPl l i=p:=Prod.ext he.1 (Prod.ext he.2.1 he.2.2)
  obtain ⟨y,hy⟩:=get_of_lt hi
  have:getPl l i=y:=by unfold getPl; rw [hy]; rfl
  exact h y (List.mem_of_getElem? hy) (this ▸ e)
 rw [this]; rfl
theorem slotR_some {s:List PlaceD × Nat} {la:List Int} {first k:Int} (h:SlotsOk first s):takenD s.1 la (3,first+(s.2:Int),0) k=false:=by
 refine taken_no (fun q hq e=>?_) (by simp)
 subst e
 have:=h _ hq rfl rfl
 simp only at this; omega
theorem slotR_ex {s:List PlaceD × Nat} {la:List Int} {first k:Int} (h:SlotsOk first s):∃ q,slotR s.1 la first k s.2=some q∧q≤s.2:=by
 cases hq:slotR s.1 la first k s.2 with
 | some q =>
  refine ⟨q,rfl,?_⟩
  have:=List.mem_of_find?_eq_some hq
  have:=List.mem_range.1 this
  omega
 | none =>
  have:=List.find?_eq_none.1 hq s.2 (List.mem_range.2 (by omega))
  rw [slotR_some h] at this; simp at this
theorem opR_ok {la:List Int} {first:Int} {s:List PlaceD × Nat} {p:OpD × Nat} (h:SlotsOk first s):SlotsOk first (opR la first s p)∧(opR la first s p).1.length=s.1.length∧s.2≤(opR la first s p).2∧(opR la first s p).2≤s.2+1:=by
 unfold opR
 split
 ·split
  ·refine ⟨fun q hq h3 h4=>?_,by simp,Nat.le_refl _,by simp⟩
   rcases List.mem_or_eq_of_mem_set hq with hq | rfl
   ·exact h q hq h3 h4
   ·simp at h3
  ·obtain ⟨q,hq,hle⟩:=slotR_ex (la:=la) (k:=p.2) h
   rw [hq]
   refine ⟨fun x hx h3 h4=>?_,by simp,by simp only; omega,by simp only; omega⟩
   rcases List.mem_or_eq_of_mem_set hx with hx | rfl
   ·have:=h x hx h3 h4; simp only; omega
   ·simp only; omega
 ·exact ⟨h,rfl,Nat.le_refl _,by omega⟩
theorem foldR_ok {la:List Int} {first:Int}:∀ (xs:List (OpD × Nat)) {s:List PlaceD × Nat},SlotsOk first s→SlotsOk first (xs.foldl (opR la first) s)∧(xs.foldl (opR la first) s).1.length=s.1.length∧(xs.foldl (opR la first) s).2≤s.2+xs.length
 | [],s,h=>⟨h,rfl,by simp⟩
 | x::xs,s,h=>by
  obtain ⟨h1,h2,_,h3⟩:=opR_ok (la:=la) (p:=x) h
  obtain ⟨g1,g2,g3⟩:=foldR_ok xs h1
  rw [List.foldl_cons,List.length_cons]
  exact ⟨g1,g2.trans h2,by omega⟩
theorem parR_mem (n:Nat):∀ v,∀ p∈parR n v,p=(0,0,0)∨∃ i,i<v∧p=paramD i
 | 0,p,hp=>.inl (by unfold parR at hp; exact (List.mem_replicate.1 hp).2)
 | v+1,p,hp=>by
  unfold parR at hp
  rcases List.mem_or_eq_of_mem_set hp with hp | rfl
  ·rcases parR_mem n v p hp with h | ⟨i,hi,h⟩
   ·exact .inl h
   ·exact .inr ⟨i,by omega,h⟩
  ·exact .inr ⟨v,by omega,rfl⟩
theorem parR_ok {n:Nat} {first:Int} {b:BlockD} (hf:0≤first) (h:b.params-8≤first):SlotsOk first (parR n b.params.toNat,0):=fun p hp h3 _=>by
 rcases parR_mem n _ p hp with rfl | ⟨i,hi,rfl⟩
 ·simp at h3
 ·unfold paramD at h3 ⊢
  split
  ·rename_i q; rw [if_pos q] at h3; simp at h3
  ·simp only; omega
theorem opsR_ok {la:List Int} {n:Nat} {first:Int} {b:BlockD} (hf:0≤first) (h:b.params-8≤first) (q:Nat):SlotsOk first (opsR la n first b q)∧(opsR la n first b q).1.length=n∧(opsR la n first b q).2≤b.ops.length:=by
 obtain ⟨h1,h2,h3⟩:=foldR_ok (la:=la) (b.ops.take q).zipIdx (parR_ok (n:=n) hf h)
 refine ⟨h1,h2.trans (parR_len n _),Nat.le_trans h3 ?_⟩
 simp; omega
def blkR (keep:Bool) (first:Int) (n:Nat) (b:BlockD):List PlaceD × Nat:=opsR (lastR keep b) n first b b.ops.length

set_option maxHeartbeats 2000000 in
theorem con_f73 (b:BlockD) (keep:Bool) (first:Int) (n:Nat) (hn:topD b+1=(n:Int)) (hnn:n≤10000) (hb:0≤b.params∧b.params≤999) (hl:b.ops.length≤6000) (hal:b.term.args.length≤1000∧b.term.args0.length≤1000∧b.term.args1.length≤1000) (hdst:∀ o∈b.ops,R.defines o.kind=true→0≤o.dst∧o.dst<(n:Int)) (huse:∀ k y,b.ops[k]?=some y→∀ v∈usesR b k keep y,0≤v∧v<(n:Int)) (hend:∀ v∈endsR b.term,0≤v∧v<(n:Int)) (hpn:b.params≤(n:Int)) (hfirst:0≤first∧first≤1000000) (hfp:b.params-8≤first):PX.Con Try.prog 73 [(.agg (encB b)),(.sc (.bool keep)),(.J first)] [] 1 100000 (.tup [.imm 3 ((blkR keep first n b).1.map encR),.sc (.I (((blkR keep first n b).2:Nat):Int))]) []:=by
 refine PX.con_intro [(.agg (encB b)),(.sc (.bool keep)),(.J first)] 88 Try.func73 rfl rfl (by kernel_rfl) (by kernel_rfl) ?_
 intro E a hE hS
 generalize E.w0=w at hS ⊢
 have mix:=mixed
 have hLL:(lastR keep b).length=n:=by rw [lastR_len]; omega
 refine PX.G [(.e 3 (.ptr 1 0))] [(1,.box 62 (encB b))] 2 [] [] [.au,.au,.au] [1,2,3] [1] hS hE trivial fun a w hS=>?_
 refine PX.G [(.e 8 (.imm 1 ((lastR keep b).map encI)))] [] 2 [.q (PX.Con Try.prog 107 [(.agg (encB b)),(.sc (.bool keep))] [] 2 2 (.imm 1 ((lastR keep b).map encI)) [])] [] [.au,.au,.cl [] (.imm 1 ((lastR keep b).map encI)) [] 2,.au] [2,3,8] [1] hS hE ⟨PX.con_any (con_f107 b keep n hn hnn hb hl hal hdst huse hend),trivial⟩ fun a w hS=>?_
 refine PX.G [(.e 9 (.own 2 3 n))] [(2,.row 78 3 true (List.replicate n [(.J 0),(.J 0),(.J 0)]))] 3 [.q ((.sc (.I ((((lastR keep b).map encI).length:Nat):Int)):PX.PV)=(.sc (.I (n:Int)))),.q ((n:Int)=(n:Nat)),.q ((n:Int)=(n:Nat)),.b (Nat.ble n 1000000000)] [] [.au,.nm (.sc (.I (n:Int))),.mk n,.au] [2,3,8,9] [1,2] hS hE ⟨PX.nm_len (by simp [hLL]),rfl,rfl,by rw [Nat.ble_eq]; omega,trivial⟩ fun a w hS=>?_
 refine PX.G [(.e 10 (.J 0))] [] 3 [] [] [.au] [2,3,8,9,10] [1,2] hS hE trivial fun a w hS=>?_
 refine wp_seq_k fun K1 hK1=>?_
 refine PX.G [(.e 11 (.J 0))] [] 3 [] [] [.au] [2,3,8,9,10,11] [1,2] hS hE trivial fun a w hS=>?_
 refine wp_block ?_
 replace hS:=PX.rerow (id:=2) ((parR n (0)).map encR) hS rfl (by simp [parR,encR,hLL])
 refine wp_loop_ghost (fun m2 a' w'=>∃ v:Nat,m2=b.params.toNat-v∧v≤b.params.toNat∧True∧PX.Sat E 88 [(.e 2 (.J first)),(.e 3 (.ptr 1 0)),(.e 8 (.imm 1 ((lastR keep b).map encI))),(.e 9 (.own 2 3 n)),(.e 10 (.J 0)),(.e 11 (.sc (.I (v:Int))))] [(1,.box 62 (encB b)),(2,.row 78 3 true ((parR n (v)).map encR))] 3 a' w') (b.params.toNat-0) ⟨0,rfl,Nat.zero_le _,trivial,(PX.cn [] _ _ 3 hS hE)⟩ ?_
 clear hS; rintro m2 a w ⟨v,hm2,hlev,hIv,hS⟩
 refine wp_seq_k fun K3 hK3=>?_
 refine PX.G [(.e 24 (.sc (.bool (decide ((v:Int)<b.params)))))] [] 3 [] [] [.au,.au,.au,.au] [2,3,8,9,10,11,24] [1,2] hS hE trivial fun a w hS=>?_
 refine PX.cond_s (decide ((v:Int)<b.params)) hS (by kernel_rfl) (fun h4=>?_) (fun h4=>?_)
 ·skip
  refine wp_skip ?_
  refine hK3 _ _ ?_
  refine wp_seq_k fun K5 hK5=>?_
  refine wp_block ?_
  have hv0:(v:Int)<b.params:=of_decide_eq_true h4
  have hK:=parR_len n v
  obtain ⟨pl,hpl⟩:=get_of_lt (show v<(parR n (v)).length by omega)
  refine PX.G0 [] [(2,.row 78 3 true (((parR n (v)).map encR).set v [(.sc (.I ((paramD v).1))),(.sc (.I ((paramD v).2.1))),(.sc (.I ((paramD v).2.2)))]))] 3 [.q (PX.Con Try.prog 108 [(.sc (.I (v:Int)))] [] 3 3 (.agg [(.sc (.I ((paramD v).1))),(.sc (.I ((paramD v).2.1))),(.sc (.I ((paramD v).2.2)))]) []),.q ((v:Int)=(v:Int)),.q (v<n),.q (((parR n (v)).map encR)[v]?=some (encR pl))] [] [.au,.au,.au,.cl [] (.agg [(.sc (.I ((paramD v).1))),(.sc (.I ((paramD v).2.1))),(.sc (.I ((paramD v).2.2)))]) [] 3,.ix v [],.lr (encR pl)] [2,3,8,9,10,11] [1,2] hS hE ⟨PX.con_any (con_f108 v (by omega)),rfl,by omega,PX.map_get hpl,trivial⟩ fun a w hS=>?_
  refine hK5 _ _ ?_
  refine PX.G0 [(.e 11 (.sc (.I ((v+1:Nat):Int))))] [] 3 [.q ((.sc (.I (IntKind.i64.wrap ((v:Int)+1))):PX.PV)=(.sc (.I ((v+1:Nat):Int))))] [] [.au,.nm (.sc (.I ((v+1:Nat):Int))),.au] [2,3,8,9,10,11] [1,2] hS hE ⟨PX.nm_int (by rw [IntWalk.i64_in _ (by omega)]; omega),trivial⟩ fun a w hS=>?_
  replace hS:=PX.rerow (id:=2) ((parR n (v+1)).map encR) hS rfl (by rw [show parR n (v+1)=(parR n v).set v (paramD v) from rfl,List.map_set]; rfl)
  exact ⟨b.params.toNat-(v+1),by omega,v+1,rfl,by omega,trivial,(PX.cn [] _ _ 3 hS hE)⟩
 ·skip
  refine wp_exit ?_
  refine hK1 _ _ ?_
  refine wp_seq_k fun K6 hK6=>?_
  have hv0:v=b.params.toNat:=by have:=of_decide_eq_false h4; omega
  rw [hv0] at hS
  refine PX.G [(.e 33 (.imm 11 (b.ops.map encO))),(.e 34 (.sc (.I (b.ops.length:Int)))),(.e 35 (.J 0))] [] 3 [.q ((.sc (.I (((b.ops.map encO).length:Nat):Int)):PX.PV)=(.sc (.I (b.ops.length:Int))))] [] [.au,.au,.nm (.sc (.I (b.ops.length:Int))),.au] [2,8,9,10,33,34,35] [2] hS hE ⟨PX.nm_len (by simp [hLL]),trivial⟩ fun a w hS=>?_
  refine wp_block ?_
  replace hS:=PX.rerow (id:=2) ((opsR (lastR keep b) n first b (0)).1.map encR) hS rfl (rfl)
  replace hS:=PX.sl [2,8,9,10,33,34,35] (PX.reslot (t:=10) (.sc (.I (((opsR (lastR keep b) n first b (0)).2:Nat):Int))) hS rfl (fun _ _ _ _ h=>(show (.sc (.I 0):PX.PV)=.sc (.I (((opsR (lastR keep b) n first b (0)).2:Nat):Int)) from rfl) ▸ h))
  refine wp_loop_ghost (fun m7 a' w'=>∃ q:Nat,m7=b.ops.length-q∧q≤b.ops.length∧True∧PX.Sat E 88 [(.e 2 (.J first)),(.e 8 (.imm 1 ((lastR keep b).map encI))),(.e 9 (.own 2 3 n)),(.e 10 (.sc (.I (((opsR (lastR keep b) n first b (q)).2:Nat):Int)))),(.e 33 (.imm 11 (b.ops.map encO))),(.e 34 (.sc (.I (b.ops.length:Int)))),(.e 35 (.sc (.I (q:Int))))] [(2,.row 78 3 true ((opsR (lastR keep b) n first b (q)).1.map encR))] 3 a' w') (b.ops.length-0) ⟨0,rfl,Nat.zero_le _,trivial,(PX.cn [] _ _ 3 hS hE)⟩ ?_
  clear hS; rintro m7 a w ⟨q,hm7,hleq,hIq,hS⟩
  refine PX.G [(.e 36 (.sc (.bool (decide ((q:Int)<(b.ops.length:Int))))))] [] 3 [] [] [.au] [2,8,9,10,33,34,35,36] [2] hS hE trivial fun a w hS=>?_
  refine wp_seq_k fun K8 hK8=>?_
  refine PX.cond_s (decide ((q:Int)<(b.ops.length:Int))) hS (by kernel_rfl) (fun h9=>?_) (fun h9=>?_)
  ·skip
   refine wp_skip ?_
   refine hK8 _ _ ?_
   refine wp_seq_k fun K10 hK10=>?_
   refine wp_block ?_
   have hlty:q<b.ops.length:=by simpa using h9
   obtain ⟨y,hy⟩:=get_of_lt hlty
   obtain ⟨hO1,hO2,hO3⟩:=opsR_ok (la:=(lastR keep b)) (n:=n) hfirst.1 hfp q
   refine PX.G [(.e 12 (.sc (.I (q:Int)))),(.e 13 (.ptr 3 0))] [(3,.box 74 (encO y))] 4 [.q ((q:Int)=(q:Int)),.q ((b.ops.map encO)[q]?=some (encO y))] [] [.au,.ix q (encO y),.au,.au,.au,.au] [2,8,9,10,12,13,33,34,35] [2,3] hS hE ⟨rfl,PX.map_get hy,trivial⟩ fun a w hS=>?_
   refine wp_seq_k fun K11 hK11=>?_
   refine PX.G [(.e 43 (.sc (.bool (!(R.defines y.kind)))))] [] 4 [.q (PX.Con Try.prog 90 [(.J y.kind)] [] 4 4 (.sc (.bool (R.defines y.kind))) [])] [] [.au,.au,.cl [] (.sc (.bool (R.defines y.kind))) [] 4,.au] [2,8,9,10,12,13,33,34,35,43] [2,3] hS hE ⟨PX.con_any (con_f90 y.kind),trivial⟩ fun a w hS=>?_
   refine PX.cond_s (!(R.defines y.kind)) hS (by kernel_rfl) (fun h12=>?_) (fun h12=>?_)
   ·skip
    refine wp_exit ?_
    refine hK10 _ _ ?_
    refine PX.G0 [(.e 35 (.sc (.I ((q+1:Nat):Int))))] [] 4 [.q ((.sc (.I (IntKind.i64.wrap ((q:Int)+1))):PX.PV)=(.sc (.I ((q+1:Nat):Int))))] [] [.nm (.sc (.I ((q+1:Nat):Int))),.au] [2,8,9,10,33,34,35] [2] hS hE ⟨PX.nm_int (by rw [IntWalk.i64_in _ (by omega)]; omega),trivial⟩ fun a w hS=>?_
    replace hS:=PX.rerow (id:=2) ((opsR (lastR keep b) n first b (q+1)).1.map encR) hS rfl (by rw [opsR_succ hy]; unfold opR; rw [if_neg (show ¬ R.defines y.kind=true by simpa using h12)])
    replace hS:=PX.sl [2,8,9,10,33,34,35] (PX.reslot (t:=10) (.sc (.I (((opsR (lastR keep b) n first b (q+1)).2:Nat):Int))) hS rfl (fun _ _ _ _ h=>(show ((.sc (.I (((opsR (lastR keep b) n first b (q)).2:Nat):Int))):PX.PV)=.sc (.I (((opsR (lastR keep b) n first b (q+1)).2:Nat):Int)) from by rw [opsR_succ hy]; unfold opR; rw [if_neg (show ¬ R.defines y.kind=true by simpa using h12)]) ▸ h))
    exact ⟨b.ops.length-(q+1),by omega,q+1,rfl,by omega,trivial,(PX.cn [] _ _ 3 hS hE)⟩
   ·skip
    refine wp_skip ?_
    refine hK11 _ _ ?_
    have hdef:R.defines y.kind=true:=by simpa using h12
    have hd:=hdst y (List.mem_of_getElem? hy) hdef
    obtain ⟨pl,hpl⟩:=get_of_lt (show y.dst.toNat<(opsR (lastR keep b) n first b (q)).1.length by omega)
    refine PX.G [(.e 14 (.ptr 4 0))] [(4,.box 78 [(.J 2),(.J 1),(.J 0)])] 5 [] [] [.au,.au,.au] [2,8,9,10,12,13,14,33,34,35] [2,3,4] hS hE trivial fun a w hS=>?_
    refine wp_seq_k fun K13 hK13=>?_
    refine wp_block ?_
    refine wp_loop_ghost (fun m14 a' w'=>∃ j:Nat,m14=12-j∧j≤12∧(∀ i,i<j→takenD (opsR (lastR keep b) n first b (q)).1 (lastR keep b) (2,((i+1:Nat):Int),0) (q:Int)=true)∧PX.Sat E 88 [(.e 2 (.J first)),(.e 8 (.imm 1 ((lastR keep b).map encI))),(.e 9 (.own 2 3 n)),(.e 10 (.sc (.I (((opsR (lastR keep b) n first b (q)).2:Nat):Int)))),(.e 12 (.sc (.I (q:Int)))),(.e 13 (.ptr 3 0)),(.e 14 (.ptr 4 0)),(.e 33 (.imm 11 (b.ops.map encO))),(.e 34 (.sc (.I (b.ops.length:Int)))),(.e 35 (.sc (.I (q:Int))))] [(2,.row 78 3 true ((opsR (lastR keep b) n first b (q)).1.map encR)),(3,.box 74 (encO y)),(4,.box 78 [(.J 2),(.sc (.I ((j+1:Nat):Int))),(.J 0)])] 5 a' w') (12-0) ⟨0,rfl,Nat.zero_le _,(fun i hi=>by omega),(PX.cn [] _ _ 5 hS hE)⟩ ?_
    clear hS; rintro m14 a w ⟨j,hm14,hlej,hIj,hS⟩
    refine wp_seq_k fun K15 hK15=>?_
    refine PX.G [(.e 54 (.sc (.bool (decide (((j+1:Nat):Int)≤12)&&(takenD (opsR (lastR keep b) n first b (q)).1 (lastR keep b) (2,((j+1:Nat):Int),0) (q:Int))))))] [] 5 [.q (SX.pv [(3,decide (((j+1:Nat):Int)≤12))] [(3,true)]=true→PX.AllOb [.q (PX.Con Try.prog 109 [(.imm 3 ((opsR (lastR keep b) n first b (q)).1.map encR)),(.imm 1 ((lastR keep b).map encI)),(.agg [(.J 2),(.sc (.I ((j+1:Nat):Int))),(.J 0)]),(.sc (.I (q:Int)))] [] 5 5 (.sc (.bool (takenD (opsR (lastR keep b) n first b (q)).1 (lastR keep b) (2,((j+1:Nat):Int),0) (q:Int)))) []),.b (PX.lenIs n ((opsR (lastR keep b) n first b (q)).1.map encR))])] [(3,decide (((j+1:Nat):Int)≤12))] [.au,.au,.au,.au,.au,.au,.au,.au,.cr [2] (.bool (takenD (opsR (lastR keep b) n first b (q)).1 (lastR keep b) (2,((j+1:Nat):Int),0) (q:Int))),.pk] [2,8,9,10,12,13,14,33,34,35,54] [2,3,4] hS hE ⟨fun hg=>⟨PX.con_any (con_f109 (opsR (lastR keep b) n first b (q)).1 (lastR keep b) (2,((j+1:Nat):Int),0) (q:Int) (by omega) (by omega)),by simp [PX.lenIs,hO2],trivial⟩,trivial⟩ fun a w hS=>?_
    refine PX.cond_s (decide (((j+1:Nat):Int)≤12)&&(takenD (opsR (lastR keep b) n first b (q)).1 (lastR keep b) (2,((j+1:Nat):Int),0) (q:Int))) hS (by kernel_rfl) (fun h16=>?_) (fun h16=>?_)
    ·skip
     refine wp_skip ?_
     refine hK15 _ _ ?_
     refine wp_block ?_
     refine PX.G0 [] [(4,.box 78 [(.J 2),(.sc (.I ((j+1+1:Nat):Int))),(.J 0)])] 5 [.q ((.sc (.I (IntKind.i64.wrap (((j+1:Nat):Int)+1))):PX.PV)=(.sc (.I ((j+1+1:Nat):Int))))] [] [.au,.au,.nm (.sc (.I ((j+1+1:Nat):Int))),.au,.au] [2,8,9,10,12,13,14,33,34,35] [2,3,4] hS hE ⟨PX.nm_int (by rw [IntWalk.i64_in _ (by omega)]; omega),trivial⟩ fun a w hS=>?_
     have hj12:j<12:=by have hq:=h16; simp at hq; omega
     exact ⟨12-(j+1),by omega,j+1,rfl,by omega,(fun i hi=>if q1:i<j then hIj i q1 else by obtain rfl:i=j:=(by omega); have hq:=h16; simp at hq; exact hq.2),(PX.cn [] _ _ 5 hS hE)⟩
    ·skip
     refine wp_exit ?_
     refine hK13 _ _ ?_
     refine wp_seq_k fun K17 hK17=>?_
     refine PX.G [(.e 61 (.sc (.bool (decide (12<((j+1:Nat):Int))))))] [] 5 [] [] [.au,.au,.au] [2,8,9,10,12,13,14,33,34,35,61] [2,3,4] hS hE trivial fun a w hS=>?_
     refine PX.cond_s (decide (12<((j+1:Nat):Int))) hS (by kernel_rfl) (fun h18=>?_) (fun h18=>?_)
     ·skip
      have hj0:j=12:=by have:=of_decide_eq_true h18; omega
      have hR0:regR (opsR (lastR keep b) n first b (q)).1 (lastR keep b) (q:Int)=none:=PX.find_range_none fun i hi=>by rw [hIj i (by omega)]; rfl
      refine PX.G [] [(4,.box 78 [(.J 3),(.J first),(.J 0)])] 5 [] [] [.au,.au,.au] [2,8,9,10,12,13,14,33,34,35] [2,3,4] hS hE trivial fun a w hS=>?_
      replace hS:=PX.recell (id:=4) (j:=1) (.sc (.I (first+((0:Nat):Int)))) hS rfl rfl rfl (fun _ _ _ _ h=>(show (.sc (.I first):PX.PV)=.sc (.I (first+((0:Nat):Int))) from by simp) ▸ h)
      refine wp_seq_k fun K19 hK19=>?_
      refine wp_block ?_
      refine wp_loop_ghost (fun m20 a' w'=>∃ e:Nat,m20=(opsR (lastR keep b) n first b (q)).2-e∧e≤(opsR (lastR keep b) n first b (q)).2∧(∀ i,i<e→takenD (opsR (lastR keep b) n first b (q)).1 (lastR keep b) (3,first+(i:Int),0) (q:Int)=true)∧PX.Sat E 88 [(.e 2 (.J first)),(.e 8 (.imm 1 ((lastR keep b).map encI))),(.e 9 (.own 2 3 n)),(.e 10 (.sc (.I (((opsR (lastR keep b) n first b (q)).2:Nat):Int)))),(.e 12 (.sc (.I (q:Int)))),(.e 13 (.ptr 3 0)),(.e 14 (.ptr 4 0)),(.e 33 (.imm 11 (b.ops.map encO))),(.e 34 (.sc (.I (b.ops.length:Int)))),(.e 35 (.sc (.I (q:Int))))] [(2,.row 78 3 true ((opsR (lastR keep b) n first b (q)).1.map encR)),(3,.box 74 (encO y)),(4,.box 78 [(.J 3),(.sc (.I (first+(e:Int)))),(.J 0)])] 5 a' w') ((opsR (lastR keep b) n first b (q)).2-0) ⟨0,rfl,Nat.zero_le _,(fun i hi=>by omega),(PX.cn [] _ _ 5 hS hE)⟩ ?_
      clear hS; rintro m20 a w ⟨e,hm20,hlee,hIe,hS⟩
      refine wp_seq_k fun K21 hK21=>?_
      refine PX.G [(.e 68 (.sc (.bool (takenD (opsR (lastR keep b) n first b (q)).1 (lastR keep b) (3,first+(e:Int),0) (q:Int)))))] [] 5 [.q (PX.Con Try.prog 109 [(.imm 3 ((opsR (lastR keep b) n first b (q)).1.map encR)),(.imm 1 ((lastR keep b).map encI)),(.agg [(.J 3),(.sc (.I (first+(e:Int)))),(.J 0)]),(.sc (.I (q:Int)))] [] 5 5 (.sc (.bool (takenD (opsR (lastR keep b) n first b (q)).1 (lastR keep b) (3,first+(e:Int),0) (q:Int)))) []),.b (PX.lenIs n ((opsR (lastR keep b) n first b (q)).1.map encR))] [] [.au,.au,.au,.au,.cr [2] (.bool (takenD (opsR (lastR keep b) n first b (q)).1 (lastR keep b) (3,first+(e:Int),0) (q:Int)))] [2,8,9,10,12,13,14,33,34,35,68] [2,3,4] hS hE ⟨PX.con_any (con_f109 (opsR (lastR keep b) n first b (q)).1 (lastR keep b) (3,first+(e:Int),0) (q:Int) (by omega) (by omega)),by simp [PX.lenIs,hO2],trivial⟩ fun a w hS=>?_
      refine PX.cond_s (takenD (opsR (lastR keep b) n first b (q)).1 (lastR keep b) (3,first+(e:Int),0) (q:Int)) hS (by kernel_rfl) (fun h22=>?_) (fun h22=>?_)
      ·skip
       refine wp_skip ?_
       refine hK21 _ _ ?_
       refine wp_block ?_
       have hes:e<(opsR (lastR keep b) n first b (q)).2:=by rcases Nat.lt_or_ge e (opsR (lastR keep b) n first b (q)).2 with hq | hq; exact hq; obtain rfl:e=(opsR (lastR keep b) n first b (q)).2:=(by omega); exact absurd h22 (by rw [slotR_some hO1]; simp)
       refine PX.G0 [] [(4,.box 78 [(.J 3),(.sc (.I (first+((e+1:Nat):Int)))),(.J 0)])] 5 [.q ((.sc (.I (IntKind.i64.wrap ((first+(e:Int))+1))):PX.PV)=(.sc (.I (first+((e+1:Nat):Int)))))] [] [.au,.au,.nm (.sc (.I (first+((e+1:Nat):Int)))),.au,.au] [2,8,9,10,12,13,14,33,34,35] [2,3,4] hS hE ⟨PX.nm_int (by rw [IntWalk.i64_in _ (by omega)]; omega),trivial⟩ fun a w hS=>?_
       exact ⟨(opsR (lastR keep b) n first b (q)).2-(e+1),by omega,e+1,rfl,by omega,(fun i hi=>if q1:i<e then hIe i q1 else by obtain rfl:i=e:=(by omega); exact h22),(PX.cn [] _ _ 5 hS hE)⟩
      ·skip
       refine wp_exit ?_
       refine hK19 _ _ ?_
       have hQ:slotR (opsR (lastR keep b) n first b (q)).1 (lastR keep b) first (q:Int) (opsR (lastR keep b) n first b (q)).2=some e:=PX.find_range (by omega) (fun i hi=>by rw [hIe i hi]; rfl) (by rw [show takenD (opsR (lastR keep b) n first b (q)).1 (lastR keep b) (3,first+(e:Int),0) (q:Int)=false from h22]; rfl)
       refine PX.G0 [(.e 10 (.sc (.I (if ((e+1:Nat):Int) > (((opsR (lastR keep b) n first b (q)).2:Nat):Int) then ((e+1:Nat):Int) else (((opsR (lastR keep b) n first b (q)).2:Nat):Int)))))] [] 5 [.q ((.sc (.I (IntKind.i64.wrap ((first+(e:Int))-first))):PX.PV)=(.sc (.I (e:Int)))),.q ((.sc (.I (IntKind.i64.wrap ((e:Int)+1))):PX.PV)=(.sc (.I ((e+1:Nat):Int))))] [] [.au,.au,.au,.au,.nm (.sc (.I (e:Int))),.nm (.sc (.I ((e+1:Nat):Int))),.au,.au] [2,8,9,10,13,14,33,34,35] [2,3,4] hS hE ⟨PX.nm_int (by rw [IntWalk.i64_in _ (by omega)]; omega),PX.nm_int (by rw [IntWalk.i64_in _ (by omega)]; omega),trivial⟩ fun a w hS=>?_
       refine hK17 _ _ ?_
       refine PX.G0 [] [(2,.row 78 3 true (((opsR (lastR keep b) n first b (q)).1.map encR).set y.dst.toNat [(.J 3),(.sc (.I (first+(e:Int)))),(.J 0)]))] 5 [.q (y.dst=(y.dst.toNat:Int)),.q (y.dst.toNat<n),.q (((opsR (lastR keep b) n first b (q)).1.map encR)[y.dst.toNat]?=some (encR pl))] [] [.au,.au,.au,.au,.ix y.dst.toNat [],.lr (encR pl)] [2,8,9,10,33,34,35] [2] hS hE ⟨by omega,by omega,PX.map_get hpl,trivial⟩ fun a w hS=>?_
       refine hK10 _ _ ?_
       refine PX.G0 [(.e 35 (.sc (.I ((q+1:Nat):Int))))] [] 5 [.q ((.sc (.I (IntKind.i64.wrap ((q:Int)+1))):PX.PV)=(.sc (.I ((q+1:Nat):Int))))] [] [.nm (.sc (.I ((q+1:Nat):Int))),.au] [2,8,9,10,33,34,35] [2] hS hE ⟨PX.nm_int (by rw [IntWalk.i64_in _ (by omega)]; omega),trivial⟩ fun a w hS=>?_
       replace hS:=PX.rerow (id:=2) ((opsR (lastR keep b) n first b (q+1)).1.map encR) hS rfl (by rw [opsR_succ hy]; unfold opR; rw [if_pos hdef]; simp only [hR0,hQ]; rw [List.map_set]; rfl)
       replace hS:=PX.sl [2,8,9,10,33,34,35] (PX.reslot (t:=10) (.sc (.I (((opsR (lastR keep b) n first b (q+1)).2:Nat):Int))) hS rfl (fun _ _ _ _ h=>(show ((.sc (.I (if ((e+1:Nat):Int) > (((opsR (lastR keep b) n first b (q)).2:Nat):Int) then ((e+1:Nat):Int) else (((opsR (lastR keep b) n first b (q)).2:Nat):Int)))):PX.PV)=.sc (.I (((opsR (lastR keep b) n first b (q+1)).2:Nat):Int)) from by rw [opsR_succ hy]; unfold opR; rw [if_pos hdef]; simp only [hR0,hQ]; congr 2; simp only [gt_iff_lt]; split <;> omega) ▸ h))
       exact ⟨b.ops.length-(q+1),by omega,q+1,rfl,by omega,trivial,(PX.cn [] _ _ 3 hS hE)⟩
     ·skip
      refine wp_skip ?_
      refine hK17 _ _ ?_
      refine PX.G0 [] [(2,.row 78 3 true (((opsR (lastR keep b) n first b (q)).1.map encR).set y.dst.toNat [(.J 2),(.sc (.I ((j+1:Nat):Int))),(.J 0)]))] 5 [.q (y.dst=(y.dst.toNat:Int)),.q (y.dst.toNat<n),.q (((opsR (lastR keep b) n first b (q)).1.map encR)[y.dst.toNat]?=some (encR pl))] [] [.au,.au,.au,.au,.ix y.dst.toNat [],.lr (encR pl)] [2,8,9,10,33,34,35] [2] hS hE ⟨by omega,by omega,PX.map_get hpl,trivial⟩ fun a w hS=>?_
      refine hK10 _ _ ?_
      refine PX.G0 [(.e 35 (.sc (.I ((q+1:Nat):Int))))] [] 5 [.q ((.sc (.I (IntKind.i64.wrap ((q:Int)+1))):PX.PV)=(.sc (.I ((q+1:Nat):Int))))] [] [.nm (.sc (.I ((q+1:Nat):Int))),.au] [2,8,9,10,33,34,35] [2] hS hE ⟨PX.nm_int (by rw [IntWalk.i64_in _ (by omega)]; omega),trivial⟩ fun a w hS=>?_
      have hR1:regR (opsR (lastR keep b) n first b (q)).1 (lastR keep b) (q:Int)=some j:=PX.find_range (by have:=of_decide_eq_false h18; omega) (fun i hi=>by rw [hIj i hi]; rfl) (by have h1:=of_decide_eq_false h18; have hq:=h16; rw [show decide (((j+1:Nat):Int)≤12)=true by simpa using (show ((j+1:Nat):Int)≤12 by omega)] at hq; simpa using hq)
      replace hS:=PX.rerow (id:=2) ((opsR (lastR keep b) n first b (q+1)).1.map encR) hS rfl (by rw [opsR_succ hy]; unfold opR; rw [if_pos hdef]; simp only [hR1]; rw [List.map_set]; rfl)
      replace hS:=PX.sl [2,8,9,10,33,34,35] (PX.reslot (t:=10) (.sc (.I (((opsR (lastR keep b) n first b (q+1)).2:Nat):Int))) hS rfl (fun _ _ _ _ h=>(show ((.sc (.I (((opsR (lastR keep b) n first b (q)).2:Nat):Int))):PX.PV)=.sc (.I (((opsR (lastR keep b) n first b (q+1)).2:Nat):Int)) from by rw [opsR_succ hy]; unfold opR; rw [if_pos hdef]; simp only [hR1]) ▸ h))
      exact ⟨b.ops.length-(q+1),by omega,q+1,rfl,by omega,trivial,(PX.cn [] _ _ 3 hS hE)⟩
  ·skip
   refine wp_exit ?_
   refine hK6 _ _ ?_
   refine PX.G [(.e 6 (.own 2 3 n)),(.e 7 (.sc (.I (((opsR (lastR keep b) n first b (q)).2:Nat):Int))))] [] 3 [] [] [.au,.au,.au,.au] [6,7] [2] hS hE trivial fun a w hS=>?_
   have hq0:q=b.ops.length:=by have:=le_of_dec h9; omega
   rw [hq0] at hS
   have hO2:=(opsR_ok (la:=(lastR keep b)) (n:=n) hfirst.1 hfp b.ops.length).2.1
   replace hS:=PX.sl [6,7] hS
   replace hS:=PX.fz 2 [(.e 6 (.imm 3 ((opsR (lastR keep b) n first b (b.ops.length)).1.map encR)))] [] [6,7] [] [.b (PX.lenIs n ((opsR (lastR keep b) n first b (b.ops.length)).1.map encR))] hS ⟨(by simp [PX.lenIs,hO2,hLL]),trivial⟩
   refine wp_ret ?_
   rw [show (.tup [.imm 3 ((blkR keep first n b).1.map encR),.sc (.I (((blkR keep first n b).2:Nat):Int))])=((.tup [(.imm 3 ((opsR (lastR keep b) n first b (b.ops.length)).1.map encR)),(.sc (.I (((opsR (lastR keep b) n first b (b.ops.length)).2:Nat):Int)))]):PX.PV) from rfl]
   exact PX.rt hS hE (.inl rfl)
end Go.Proofs.Ytlkcidmmpeebeaa
