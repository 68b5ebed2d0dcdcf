/- Proved: the iterator of sink.backward gives the operations from the last to the first,to every loop body that keeps them. -/
import Derived.Test.YtlkcidmmpeebeaaPcD
import Derived.Test.YtlkcidmmpeebeaaPt
import Derived.LoopIn
import Derived.WalkKit
import Derived.TacticsInMore
import Derived.Shelf.Abstract
import Derived.Shelf.RegionOpen
import Derived.Test.YtlkcidmmpeebeaaPcF
import Derived.Test.YtlkcidmmpeebeaaPcE
import Derived.Test.YtlkcidmmpeebeaaPSinkF
set_option linter.unusedVariables false
set_option linter.unusedSimpArgs false
namespace Go.Proofs.Ytlkcidmmpeebeaa
open Go.RowKit Go.Shelf
attribute [local go_sem] Oper.semAt_some

set_option maxRecDepth 100000 in
set_option maxHeartbeats 2000000 in
theorem back_in (n:Nat) (hn:1≤n) (l bx cap:Nat) (A:Option Addr) (ops:List OpD) (hlen:ops.length≤140737488351232) (Q:World→Prop)
    (hQ:∀ W,Q W→W.cell? ⟨bx,0,none⟩=some (.slice A ops.length cap)∧∀ k o,ops[k]?=some o→∃ b off,A=some ⟨b,off,none⟩∧∀ j u,(opC o)[j]?=some u→W.cell? ⟨b,off+k*11+j,none⟩=some u)
    (J Jx:List OpD→World→Prop)
    (hY:∀ pre x W,J pre W→pre.length<ops.length→YieldAt Fence.wide (n-1) Try.prog l #[opV x] W fun e W'=>(e=.returned (.bool true)∧J (pre++[x]) W'∧(Q W→Q W'))∨(e=.returned (.bool false)∧Jx (pre++[x]) W'))
    (W:World) (hq:Q W) (h0:J [] W) :
    CallsIn Fence.wide n Try.prog 150 #[.func (.yield l) #[] #[],.pointer (some ⟨bx,0,none⟩)] W fun e W'=>(∃ v,e=.returned v)∧((∃ ys,ys=ops.reverse∧J ys W')∨(∃ pre,True∧Jx pre W')):=by
  have hc:=(hQ W hq).1
  have hw0:IntKind.i64.wrap ((ops.length:Int)-1)=(ops.length:Int)-1:=IntWalk.i64_in _ (by omega)
  refine callsIn_of_wp Try.func150 rfl trivial ?_ rfl
  simp only [Try.ntmps150,List.size_toArray,List.length_cons,List.length_nil,Nat.reduceAdd,Nat.reduceSub,Array.replicate_succ,Array.replicate_zero,List.push_toArray,List.append_toArray,List.nil_append,List.cons_append]
  gi_wp2
  gi_loopw [3] (fun i wr=>∃ r:Nat,r≤ops.length∧i=.int .i64 ((r:Int)-1)∧J (ops.reverse.take (ops.length-r)) wr∧Q wr)
    (fun i _=>(intOf i+1).toNat)
  case atStart=>exact ⟨ops.length,Nat.le_refl _,rfl,by simpa using h0,hq⟩
  case round =>
    obtain ⟨r,hr,rfl,hJs,hqs⟩:=hrel
    cases r with
    | zero =>
      gi_wp2
      go_end0
      exact ⟨⟨_,rfl⟩,.inl ⟨_,rfl,by rwa [List.take_of_length_le (by simp)] at hJs⟩⟩
    | succ k =>
      obtain ⟨hcx,hcs⟩:=hQ wr hqs
      obtain ⟨o,ho⟩:=get_of_lt (show k<ops.length by omega)
      obtain ⟨b,off,rfl,hcell⟩:=hcs k o ho
      have q0:=hcell 0 _ rfl
      simp only [Nat.add_zero] at q0
      have q1:=hcell 1 _ rfl
      have q2:=hcell 2 _ rfl
      have q3:=hcell 3 _ rfl
      have q4:=hcell 4 _ rfl
      have q5:=hcell 5 _ rfl
      have q6:=hcell 6 _ rfl
      have q7:=hcell 7 _ rfl
      have q8:=hcell 8 _ rfl
      have q9:=hcell 9 _ rfl
      have q10:=hcell 10 _ rfl
      obtain ⟨fn,tmps,assign,body,hy,hR⟩:=hY _ o wr hJs (by simp; omega)
      dsimp only [opV] at hy
      have e1:((k+1:Nat):Int)-1=(k:Int):=by omega
      rw [e1]
      clear hcell hcs
      have hw1:IntKind.i64.wrap ((k:Int)-1)=(k:Int)-1:=IntWalk.i64_in _ (by omega)
      gi_wp2
      refine hR.mono ?_
      rintro e W3 (⟨rfl,hJ3,hk3⟩ | ⟨rfl,hJx3⟩)
      · gi_wp2
        go_roundw
        case rel =>
          refine ⟨k,by omega,rfl,?_,hk3 hqs⟩
          have e2:ops.length-k=(ops.length-(k+1))+1:=by omega
          have e3:ops.reverse[ops.length-(k+1)]?=some o:=by
            rw [List.getElem?_reverse (by omega),show ops.length-1-(ops.length-(k+1))=k by omega,ho]
          rw [e2,List.take_add_one,e3]
          exact hJ3
        case measure=>simp [intOf]
      · gi_wp2
        refine bodyPost_ret (results_none rfl _ _ _) rfl ?_
        exact ⟨⟨_,rfl⟩,.inr ⟨_,trivial,hJx3⟩⟩
end Go.Proofs.Ytlkcidmmpeebeaa

/- Proved: how the rounds of sink.order see memory: the list in its box,as cells and as plain data. -/
namespace Go.PX
open Go.RowKit Go.SX
end Go.PX
namespace Go.Proofs.Ytlkcidmmpeebeaa
open Go.RowKit Go.PX

theorem ofC (o:OpD) (l:List Value) (xs:List PV) (h:ofCells l=some xs):ofCells (opC o++l)=some (encO o++xs):=by
  simp [opC,encO,ofCells,scOk,h]
theorem ofL:∀ L:List OpD,ofCells (L.flatMap opC)=some (L.map encO).flatten
  | []=>rfl
  | o::L=>by simpa using ofC o _ _ (ofL L)
theorem toL:∀ L:List OpD,toCells (L.map encO).flatten=some (L.flatMap opC)
  | []=>rfl
  | o::L=>by
    have:=toL L
    simp only [List.map_cons,List.flatten_cons,List.flatMap_cons]
    simp [opC,encO,toCells,this]
theorem len_opC (L:List OpD):(L.flatMap opC).length=L.length*11:=by
  induction L with
  | nil=>rfl
  | cons o L ih=>simp only [List.flatMap_cons,List.length_append,ih,List.length_cons,show (opC o).length=11 from rfl]; omega
theorem rows_ok (L:List OpD):rowsOk 11 (L.map encO):=fun r hr=>by
  obtain ⟨x,_,rfl⟩:=List.mem_map.1 hr; exact ⟨rfl,rfl⟩
theorem vrs_one {σ:Nm} {Z:Nat→Prop} {w:World} {o:OpD}:VRs σ Z w (opC o) (encO o):=by
  have:=(ofCells_spec (σ:=σ) (Z:=Z) (w:=w) (ofC o [] [] rfl)).1
  simpa using this

abbrev HL (L:List OpD):Heap:=[(1,.box 55 [.own 4 11 L.length]),(4,.row 74 11 true (L.map encO))]
abbrev HX (L:List OpD) (x:OpD):Heap:=[(1,.box 55 [.own 4 11 L.length]),(3,.box 74 (encO x)),(4,.row 74 11 true (L.map encO))]
def rowNm (v:Value):Option (Nat × Nat) :=
  match v with
  | .slice (some a) _ c=>some (a.block,c)
  | _=>none
/-- the list lies in a row of its own -/
theorem or_list {σ:Nm} {W:World} {v:Value} {L:List OpD} (hl:L.length≤100000) (hown:W.ownsRow 0 74 11 v L.length (L.flatMap opC)) (h4:σ 4=rowNm v) :
    OR σ (fun _=>False) W 4 (.row 74 11 true (L.map encO))∧VR σ (fun _=>False) W v (.own 4 11 L.length):=by
  rcases hown.2 with ⟨rfl,h0⟩ | ⟨g,cap,cur,rfl,_,hg,hle,hc,hcs,htk⟩
  · have e:L=[]:=List.length_eq_zero_iff.1 h0
    subst e
    exact ⟨⟨rows_ok _,⟨by simp,fun q=>absurd rfl q⟩,fun b c hb=>by rw [h4] at hb; cases hb⟩,.own0 4 11⟩
  · have h4:σ 4=some (g,cap):=h4
    refine ⟨⟨rows_ok _,⟨by simp; omega,fun _=>by rw [h4]; simp⟩,fun b c hb=>?_⟩,.own 4 11 _ g cap h4⟩
    rw [h4] at hb; simp only [Option.some.injEq,Prod.mk.injEq] at hb; obtain ⟨rfl,rfl⟩:=hb
    refine ⟨cur.toList,by simpa using hg,by simpa using hcs,by simpa using hle,by simpa [maxLen] using hc,?_⟩
    have hs:=ofCells_spec (σ:=σ) (Z:=fun _=>False) (w:=W) (ofL L)
    rw [List.length_map,htk]
    refine ⟨hs.1,fun _=>⟨hs.1.1,fun i u x hu hx=>?_⟩⟩
    have hq:=hs.1.2 i u x hu hx
    refine hq.ir ?_
    obtain ⟨r,hr,hxr⟩:=List.mem_flatten.1 (List.mem_of_getElem? hx)
    obtain ⟨o,_,rfl⟩:=List.mem_map.1 hr
    simp only [encO,List.mem_cons,List.not_mem_nil,or_false] at hxr
    rcases hxr with rfl | rfl | rfl | rfl | rfl | rfl | rfl | rfl | rfl | rfl | rfl <;> rfl
theorem own4 {v:Value} {b c:Nat} (h:rowNm v=some (b,c)):v.ownBlock=some b:=by
  unfold rowNm at h
  split at h
  · simp only [Option.some.injEq,Prod.mk.injEq] at h; rw [← h.1]; rfl
  · cases h
theorem open1 {W:World} {a:Act} {bl:Nat} {v:Value} {L:List OpD} {R:List Ent} (hl:L.length≤100000) (h1:W.heap[bl]?=some (.cells #[v] 55 (0,0))) (hown:W.ownsRow 0 74 11 v L.length (L.flatMap opC)) (hv:v.ownBlock≠some bl) (hR:∀ σ:Nm,σ 1=some (bl,0)→RS σ (fun _=>False) W 25 [] R a) :
    ∃ E:Env,E.w0=W∧EnvOk E (HL L) [(1,none),(4,none)] 5 100000∧Sat E 25 R (HL L) 5 a W∧E.σ0 1=some (bl,0)∧(∀ b,E.Wr b→b=bl∨v.ownBlock=some b)∧∀ b,¬ E.Z0 b:=by
  obtain ⟨σ,hσ⟩:∃ σ:Nm,σ=fun id=>if id=1 then some (bl,0) else if id=4 then rowNm v else none:=⟨_,rfl⟩
  have s1:σ 1=some (bl,0):=by rw [hσ]; rfl
  have s4:σ 4=rowNm v:=by rw [hσ]; rfl
  have s0:∀ id,5≤id→σ id=none:=fun id h=>by
    rw [hσ]; show (if _ then _ else _)=_
    rw [if_neg (by omega),if_neg (by omega)]
  have hlk:∀ id o,hlook (HL L) id=some o→id=1∧o=.box 55 [.own 4 11 L.length]∨id=4∧o=.row 74 11 true (L.map encO):=fun id o h=>by
    simp only [hlook] at h
    cases e1:Nat.beq 1 id with
    | true=>rw [e1] at h; simp only [cond_true,Option.some.injEq] at h; exact .inl ⟨(Nat.eq_of_beq_eq_true e1).symm,h.symm⟩
    | false =>
      rw [e1] at h; simp only [cond_false] at h
      cases e4:Nat.beq 4 id with
      | true=>rw [e4] at h; simp only [cond_true,Option.some.injEq] at h; exact .inr ⟨(Nat.eq_of_beq_eq_true e4).symm,h.symm⟩
      | false=>rw [e4] at h; cases h
  have hno:∀ id,5≤id→hlook (HL L) id=none:=fun id h=>by
    cases q:hlook (HL L) id with
    | none=>rfl
    | some o=>rcases hlk id o q with ⟨rfl,_⟩ | ⟨rfl,_⟩ <;> omega
  obtain ⟨o4,v4⟩:=or_list hl hown s4
  have hne:∀ b c c',σ 1=some (b,c)→σ 4=some (b,c')→False:=fun b c c' q1 q4=>by
    rw [s1] at q1; simp only [Option.some.injEq,Prod.mk.injEq] at q1; obtain ⟨rfl,rfl⟩:=q1
    rw [s4] at q4; exact hv (own4 q4)
  have hHR:HR σ (fun _=>False) W (HL L):=by
    refine ⟨fun id o h=>?_,fun id id' o o' b c c' h h' k k'=>?_,fun _ _ _ _ _ _ q=>q,fun _ q=>q.elim⟩
    · rcases hlk id o h with ⟨rfl,rfl⟩ | ⟨rfl,rfl⟩
      · exact ⟨bl,0,[v],s1,h1,rfl,.cons v4 .nil⟩
      · exact o4
    · rcases hlk id o h with ⟨rfl,_⟩ | ⟨rfl,_⟩ <;> rcases hlk id' o' h' with ⟨rfl,_⟩ | ⟨rfl,_⟩
      · rfl
      · exact (hne b c c' k k').elim
      · exact (hne b c' c k' k).elim
      · rfl
  refine ⟨{ w0:=W,Wr:=WrOf σ (HL L) [(1,none),(4,none)],Z0:=fun _=>False,σ0:=σ,lo:=5,top:=100000 },rfl,⟨rfl,rfl,rfl,fun id h _=>hno id h,fun id h _=>s0 id h⟩,⟨σ,fun _=>False,hR σ s1,hHR,fun id h _=>⟨s0 id h,hno id h⟩,Nat.le_refl _,Ext.refl σ,fun _ h _=>h,fun id o b c h k=>?_,Chg.refl _ _,fun b q=>q.elim,fun b q=>q⟩,s1,fun b ⟨id,o,c,q1,q2,q3⟩=>?_,fun _ q=>q⟩
  · refine .inr ⟨id,o,c,?_,h,k⟩
    rcases hlk id o h with ⟨rfl,_⟩ | ⟨rfl,_⟩ <;> simp [ulook]
  · rcases hlk id o q2 with ⟨rfl,_⟩ | ⟨rfl,_⟩
    · rw [s1] at q3; simp only [Option.some.injEq,Prod.mk.injEq] at q3; exact .inl q3.1.symm
    · rw [s4] at q3; exact .inr (own4 q3)
theorem open2 {W:World} {a:Act} {bl bx:Nat} {v:Value} {L:List OpD} {x:OpD} {R:List Ent} (hl:L.length≤100000) (h1:W.heap[bl]?=some (.cells #[v] 55 (0,0))) (hx:W.heap[bx]?=some (.cells (opC x).toArray 74 (0,0))) (hown:W.ownsRow 0 74 11 v L.length (L.flatMap opC)) (hv:v.ownBlock≠some bl) (hvx:v.ownBlock≠some bx) (hbx:bl≠bx) (hR:∀ σ:Nm,σ 1=some (bl,0)→σ 3=some (bx,0)→RS σ (fun _=>False) W 25 [] R a) :
    ∃ E:Env,E.w0=W∧EnvOk E (HX L x) [(1,none),(3,none),(4,none)] 5 100000∧Sat E 25 R (HX L x) 5 a W∧E.σ0 1=some (bl,0)∧∀ b,E.Wr b→b=bl∨b=bx∨v.ownBlock=some b:=by
  obtain ⟨σ,hσ⟩:∃ σ:Nm,σ=fun id=>if id=1 then some (bl,0) else if id=3 then some (bx,0) else if id=4 then rowNm v else none:=⟨_,rfl⟩
  have s1:σ 1=some (bl,0):=by rw [hσ]; rfl
  have s3:σ 3=some (bx,0):=by rw [hσ]; rfl
  have s4:σ 4=rowNm v:=by rw [hσ]; rfl
  have s0:∀ id,5≤id→σ id=none:=fun id h=>by
    rw [hσ]; show (if _ then _ else _)=_
    rw [if_neg (by omega),if_neg (by omega),if_neg (by omega)]
  have hlk:∀ id o,hlook (HX L x) id=some o→id=1∧o=.box 55 [.own 4 11 L.length]∨id=3∧o=.box 74 (encO x)∨id=4∧o=.row 74 11 true (L.map encO):=fun id o h=>by
    simp only [hlook] at h
    cases e1:Nat.beq 1 id with
    | true=>rw [e1] at h; simp only [cond_true,Option.some.injEq] at h; exact .inl ⟨(Nat.eq_of_beq_eq_true e1).symm,h.symm⟩
    | false =>
      rw [e1] at h; simp only [cond_false] at h
      cases e3:Nat.beq 3 id with
      | true=>rw [e3] at h; simp only [cond_true,Option.some.injEq] at h; exact .inr (.inl ⟨(Nat.eq_of_beq_eq_true e3).symm,h.symm⟩)
      | false =>
        rw [e3] at h; simp only [cond_false] at h
        cases e4:Nat.beq 4 id with
        | true=>rw [e4] at h; simp only [cond_true,Option.some.injEq] at h; exact .inr (.inr ⟨(Nat.eq_of_beq_eq_true e4).symm,h.symm⟩)
        | false=>rw [e4] at h; cases h
  have hno:∀ id,5≤id→hlook (HX L x) id=none:=fun id h=>by
    cases q:hlook (HX L x) id with
    | none=>rfl
    | some o=>rcases hlk id o q with ⟨rfl,_⟩ | ⟨rfl,_⟩ | ⟨rfl,_⟩ <;> omega
  obtain ⟨o4,v4⟩:=or_list hl hown s4
  have n14:∀ b c c',σ 1=some (b,c)→σ 4=some (b,c')→False:=fun b c c' q1 q4=>by
    rw [s1] at q1; simp only [Option.some.injEq,Prod.mk.injEq] at q1; obtain ⟨rfl,rfl⟩:=q1
    rw [s4] at q4; exact hv (own4 q4)
  have n34:∀ b c c',σ 3=some (b,c)→σ 4=some (b,c')→False:=fun b c c' q1 q4=>by
    rw [s3] at q1; simp only [Option.some.injEq,Prod.mk.injEq] at q1; obtain ⟨rfl,rfl⟩:=q1
    rw [s4] at q4; exact hvx (own4 q4)
  have n13:∀ b c c',σ 1=some (b,c)→σ 3=some (b,c')→False:=fun b c c' q1 q3=>by
    rw [s1] at q1; rw [s3] at q3; simp only [Option.some.injEq,Prod.mk.injEq] at q1 q3
    exact hbx (q1.1.trans q3.1.symm)
  have hHR:HR σ (fun _=>False) W (HX L x):=by
    refine ⟨fun id o h=>?_,fun id id' o o' b c c' h h' k k'=>?_,fun _ _ _ _ _ _ q=>q,fun _ q=>q.elim⟩
    · rcases hlk id o h with ⟨rfl,rfl⟩ | ⟨rfl,rfl⟩ | ⟨rfl,rfl⟩
      · exact ⟨bl,0,[v],s1,h1,rfl,.cons v4 .nil⟩
      · exact ⟨bx,0,opC x,s3,hx,rfl,vrs_one⟩
      · exact o4
    · rcases hlk id o h with ⟨rfl,_⟩ | ⟨rfl,_⟩ | ⟨rfl,_⟩ <;> rcases hlk id' o' h' with ⟨rfl,_⟩ | ⟨rfl,_⟩ | ⟨rfl,_⟩
      · rfl
      · exact (n13 b c c' k k').elim
      · exact (n14 b c c' k k').elim
      · exact (n13 b c' c k' k).elim
      · rfl
      · exact (n34 b c c' k k').elim
      · exact (n14 b c' c k' k).elim
      · exact (n34 b c' c k' k).elim
      · rfl
  refine ⟨{ w0:=W,Wr:=WrOf σ (HX L x) [(1,none),(3,none),(4,none)],Z0:=fun _=>False,σ0:=σ,lo:=5,top:=100000 },rfl,⟨rfl,rfl,rfl,fun id h _=>hno id h,fun id h _=>s0 id h⟩,⟨σ,fun _=>False,hR σ s1 s3,hHR,fun id h _=>⟨s0 id h,hno id h⟩,Nat.le_refl _,Ext.refl σ,fun _ h _=>h,fun id o b c h k=>?_,Chg.refl _ _,fun b q=>q.elim,fun b q=>q⟩,s1,fun b ⟨id,o,c,q1,q2,q3⟩=>?_⟩
  · refine .inr ⟨id,o,c,?_,h,k⟩
    rcases hlk id o h with ⟨rfl,_⟩ | ⟨rfl,_⟩ | ⟨rfl,_⟩ <;> simp [ulook]
  · rcases hlk id o q2 with ⟨rfl,_⟩ | ⟨rfl,_⟩ | ⟨rfl,_⟩
    · rw [s1] at q3; simp only [Option.some.injEq,Prod.mk.injEq] at q3; exact .inl q3.1.symm
    · rw [s3] at q3; simp only [Option.some.injEq,Prod.mk.injEq] at q3; exact .inr (.inl q3.1.symm)
    · rw [s4] at q3; exact .inr (.inr (own4 q3))

/-- back to cells -/
theorem close_ {E:Env} {N nx j bl:Nat} {R:List Ent} {H:Heap} {a:Act} {W:World} {L:List OpD} {σ:Nm} {Z:Nat→Prop} (hr:Rel E N [] R H nx σ Z a W) (h1:hlook H 1=some (.box 55 [.own j 11 L.length])) (hj:hlook H j=some (.row 74 11 true (L.map encO))) (hj1:j≠1) (hσ:E.σ0 1=some (bl,0)) :
    ∃ v,W.heap[bl]?=some (.cells #[v] 55 (0,0))∧W.ownsRow 0 74 11 v L.length (L.flatMap opC)∧(∀ g,v.ownBlock=some g→g≠bl∧(E.w0.heap.size≤g∨E.Wr g)∧∃ c,σ j=some (g,c)):=by
  obtain ⟨b,c,C,q1,q2,q3,q4⟩:=hr.hr.at_ 1 _ h1
  have e1:=hr.ext 1 _ hσ
  rw [q1] at e1; simp only [Option.some.injEq,Prod.mk.injEq] at e1; obtain ⟨rfl,rfl⟩:=e1
  obtain ⟨v,C',rfl,hv,hn⟩:=q4.inv
  obtain rfl:C'=[]:=List.length_eq_zero_iff.1 (by simpa using hn.1)
  refine ⟨v,q2,?_⟩
  obtain ⟨_,_,r3⟩:=hr.hr.at_ j _ hj
  have hlen:=len_opC L
  have hto:=toL L
  have hon:∀ w:World,∀ v n xs,n=L.length→xs=L.flatMap opC→w.ownsRow 0 74 11 v n xs→w.ownsRow 0 74 11 v L.length (L.flatMap opC):=fun w v n xs e e' h=>by subst e e'; exact h
  generalize hm:L.length=m at hv
  cases hv with
  | own _ _ _ g c hs =>
    subst hm
    obtain ⟨C,p1,p2,p3,p4,p5⟩:=r3 g c hs
    have hl:=toCells_spec p5.1 (toL L)
    refine ⟨⟨len_opC L,.inr ⟨g,c,C.toArray,rfl,Nat.zero_le _,p1,by simpa using p3,by simpa [maxLen] using p4,by simpa using p2,by simpa using hl⟩⟩,fun g' e=>?_⟩
    cases e
    refine ⟨fun e=>?_,hr.own j _ _ _ hj hs,c,hs⟩
    have e:g=b:=e
    subst e
    exact hj1 (hr.hr.inj j 1 _ _ _ c _ hj h1 hs q1)
  | own0 =>
    exact ⟨⟨by rw [hlen,hm],.inl ⟨rfl,rfl⟩⟩,fun g' e=>by cases e⟩
end Go.Proofs.Ytlkcidmmpeebeaa

/- Proved: what the rounds of sink.order keep. -/
namespace Go.Proofs.Ytlkcidmmpeebeaa
open Go.RowKit Go.PX

theorem turn_heap {W W':World} {row:Option Nat} (hg:W.grownBy W' row) (hr:∀ r,row=some r→∃ o:Obj,W.heap[r]?=some o∧o.isCells=false) {b:Nat} {C:Array Value} {e:TypeId} {s:Nat × Nat} (h:W.heap[b]?=some (.cells C e s)):W'.heap[b]?=some (.cells C e s):=by
  refine (hg.block b (Array.getElem?_eq_some_iff.1 h).1 fun e'=>?_).trans h
  obtain ⟨o,h1,h2⟩:=hr b e'.symm
  rw [h] at h1; injection h1 with h1; subst h1; cases h2
theorem cell_heap {W:World} {p:Addr} {v:Value} (h:W.cell? p=some v):∃ C e s,W.heap[p.block]?=some (.cells C e s):=by
  unfold World.cell? at h
  cases ho:W.heap[p.block]? with
  | none=>rw [ho] at h; cases h
  | some o=>rw [ho] at h; cases o <;> first | exact ⟨_,_,_,rfl⟩ | cases h
theorem turn_cell {W W':World} {row:Option Nat} (hg:W.grownBy W' row) (hr:∀ r,row=some r→∃ o:Obj,W.heap[r]?=some o∧o.isCells=false) (p:Addr) (v:Value) (h:W.cell? p=some v):W'.cell? p=some v:=by
  obtain ⟨C,e,s,hc⟩:=cell_heap h
  rw [World.cell?_of_block ((turn_heap hg hr hc).trans hc.symm)]; exact h
theorem turn_own {W W':World} (hb:∀ (b:Nat) C e s,W.heap[b]?=some (.cells C e s)→W'.heap[b]?=some (.cells C e s)) {v:Value} {n:Nat} {xs:List Value} (h:W.ownsRow 0 74 11 v n xs):W'.ownsRow 0 74 11 v n xs:=by
  refine ⟨h.1,h.2.imp (fun q=>q) fun ⟨g,cap,cur,e1,e2,e3,e4⟩=>⟨g,cap,cur,e1,e2,hb _ _ _ _ e3,e4⟩⟩

/-- the list,as the box bl holds it; nothing else that lay in w1 has changed -/
def LI (w1:World) (bl:Nat) (L:List OpD) (W:World):Prop :=
  ∃ v,W.heap[bl]?=some (.cells #[v] 55 (0,0))∧W.ownsRow 0 74 11 v L.length (L.flatMap opC)∧(∀ g,v.ownBlock=some g→w1.heap.size≤g)∧Chg (fun b=>b=bl) w1 W
theorem LI.turn {w1:World} {bl:Nat} {L:List OpD} {W W':World} {row:Option Nat} (h:LI w1 bl L W) (hg:W.grownBy W' row) (hr:∀ r,row=some r→w1.heap.size≤r∧∃ o:Obj,W.heap[r]?=some o∧o.isCells=false):LI w1 bl L W':=by
  obtain ⟨v,h1,h2,h3,h4⟩:=h
  have hr':=fun r e=>(hr r e).2
  refine ⟨v,turn_heap hg hr' h1,turn_own (fun b C e s q=>turn_heap hg hr' q) h2,h3,⟨hg.os.trans h4.os,hg.tape.trans h4.tape,hg.output.trans h4.output,Nat.le_trans h4.size hg.size,fun b hb hn=>?_⟩⟩
  rw [hg.block b (Nat.lt_of_lt_of_le hb h4.size) fun e=>?_]
  · exact h4.block b hb hn
  · have:=(hr b e.symm).1; omega
theorem keeps_chg {B:Nat} {W W':World} {M:Nat→Prop} (h:Chg M W W') (hM:∀ b,M b→∃ C e s,W.heap[b]?=some (.cells C e s)):KeepsFrom B W W' :=
  ⟨h.size,fun k o _ hk ho=>(h.block k (Array.getElem?_eq_some_iff.1 hk).1 fun q=>by
    obtain ⟨C,e,s,hc⟩:=hM k q
    rw [hk] at hc; injection hc with hc; subst hc; cases ho).trans hk⟩
theorem own_heap {W:World} {v:Value} {n:Nat} {xs:List Value} (h:W.ownsRow 0 74 11 v n xs) {b:Nat} (hb:v.ownBlock=some b):∃ C e s,W.heap[b]?=some (.cells C e s):=by
  rcases h.2 with ⟨rfl,_⟩ | ⟨g,cap,cur,rfl,_,hg,_⟩
  · cases hb
  · cases hb; exact ⟨_,_,_,hg⟩
theorem chg_step {w1 W W':World} {bl:Nat} {M:Nat→Prop} (h:Chg (fun b=>b=bl) w1 W) (k:Chg M W W') (hM:∀ b,M b→b=bl∨w1.heap.size≤b):Chg (fun b=>b=bl) w1 W' :=
  ⟨k.os.trans h.os,k.tape.trans h.tape,k.output.trans h.output,Nat.le_trans h.size k.size,fun b hb hn=>by
    rw [k.block b (Nat.lt_of_lt_of_le hb h.size) fun q=>?_]
    · exact h.block b hb hn
    · rcases hM b q with q | q
      · exact hn q
      · omega⟩

theorem ir_ops {Z:Nat→Prop} {W:World} {sv:Value} {ops:List OpD} (h:IR Z W sv (.imm 11 (ops.map encO))):∃ A cap,sv=.slice A ops.length cap∧ops.length≤140737488351232∧∀ k o,ops[k]?=some o→∃ b off,A=some ⟨b,off,none⟩∧∀ (j:Nat) u,(opC o)[j]?=some u→W.cell? ⟨b,off+k*11+j,none⟩=some u:=by
  cases h with
  | imm A cap _ _ U h1 h2 h3 h4 =>
    rw [List.length_map] at *
    refine ⟨A,cap,rfl,h1.2,fun k o ho=>?_⟩
    obtain ⟨q1,q2,b,off,q3,q4,q5⟩:=h3 k (encO o) (by rw [List.getElem?_map,ho]; rfl)
    refine ⟨b,off,q3,fun j u hj=>?_⟩
    have hjl:j<11:=(List.getElem?_eq_some_iff.1 hj).1
    obtain ⟨x,hx⟩:∃ x,(encO o)[j]?=some x:=⟨(encO o)[j]'hjl,List.getElem?_eq_getElem _⟩
    have hir:=h4 k (encO o) j x (by rw [List.getElem?_map,ho]; rfl) hx
    have hvr:=(vrs_one (σ:=fun _=>none) (Z:=Z) (w:=W) (o:=o)).2 j u x hj hx
    have e:U k j=u:=by
      have e1:∃ s,x=.sc s:=by
        match j,hjl,hx with
        | 0,_,hx=>simp [encO] at hx; exact ⟨_,hx.symm⟩
        | 1,_,hx=>simp [encO] at hx; exact ⟨_,hx.symm⟩
        | 2,_,hx=>simp [encO] at hx; exact ⟨_,hx.symm⟩
        | 3,_,hx=>simp [encO] at hx; exact ⟨_,hx.symm⟩
        | 4,_,hx=>simp [encO] at hx; exact ⟨_,hx.symm⟩
        | 5,_,hx=>simp [encO] at hx; exact ⟨_,hx.symm⟩
        | 6,_,hx=>simp [encO] at hx; exact ⟨_,hx.symm⟩
        | 7,_,hx=>simp [encO] at hx; exact ⟨_,hx.symm⟩
        | 8,_,hx=>simp [encO] at hx; exact ⟨_,hx.symm⟩
        | 9,_,hx=>simp [encO] at hx; exact ⟨_,hx.symm⟩
        | 10,_,hx=>simp [encO] at hx; exact ⟨_,hx.symm⟩
        | j+11,h,_=>omega
      obtain ⟨s,rfl⟩:=e1
      rw [toV_spec (hir.vr (σ:=fun _=>none)) rfl,toV_spec hvr rfl]
    rw [← e]; exact q5 j hjl

theorem back_stops (n:Nat) (hn:1≤n) (bx cap:Nat) (A:Option Addr) (ops:List OpD) (hlen:ops.length≤140737488351232) (Q:World→Prop)
    (hQ:∀ W,Q W→W.cell? ⟨bx,0,none⟩=some (.slice A ops.length cap)∧∀ k o,ops[k]?=some o→∃ b off,A=some ⟨b,off,none⟩∧∀ j u,(opC o)[j]?=some u→W.cell? ⟨b,off+k*11+j,none⟩=some u) (w0:World) (h0:∀ W,Below w0.heap.size w0 W→Q W) :
    SeqStopsK (FW none) n Try.prog 150 #[.pointer (some ⟨bx,0,none⟩)] (fun o=>#[opV o]) (fun W W'=>Q W→Q W') (fun xs=>xs=ops.reverse) (fun _=>True) ops.length w0 :=
  fun l J Jx W hW _ _ hY hJ=>back_in n hn l bx cap A ops hlen Q hQ J Jx hY W (h0 W hW) hJ

theorem atD_le (L:List OpD) (o:OpD):atD L o≤L.length:=by
  unfold atD; split
  · exact List.findIdx_le_length
  · omega
theorem atD_no {L:List OpD} {o:OpD} (hm:movesD o.kind=false):PX.PV.sc (.int .i64 0)=.sc (.int .i64 ((atD L o:Nat):Int)):=by
  unfold atD; rw [hm]; rfl
theorem idx_none {L:List OpD} {o:OpD} (hm:movesD o.kind=true) (h:idxD L o.dst<0):PX.PV.sc (.int .i64 ((L.length:Nat):Int))=.sc (.int .i64 ((atD L o:Nat):Int)):=by
  have e:atD L o=L.length:=by
    unfold atD; rw [if_pos hm]
    unfold idxD at h
    split at h
    · omega
    · rename_i q; exact List.findIdx_eq_length.2 fun x hx=>by have:=List.findIdx?_eq_none_iff.1 q x hx; simpa using this
  rw [e]
theorem idx_some {L:List OpD} {o:OpD} (hm:movesD o.kind=true) (h:¬ idxD L o.dst<0):PX.PV.sc (.int .i64 (idxD L o.dst))=.sc (.int .i64 ((atD L o:Nat):Int)):=by
  have e:idxD L o.dst=((atD L o:Nat):Int):=by
    unfold idxD at h ⊢
    unfold atD; rw [if_pos hm]
    split
    · rename_i k q
      obtain ⟨h1,h2,h3⟩:=List.findIdx?_eq_some_iff_getElem.1 q
      congr 1
      symm
      rw [List.findIdx_eq h1]
      exact ⟨h2,fun j hj=>by have:=h3 j hj; simpa using this⟩
    · rename_i q; rw [q] at h; exact absurd (show (-1:Int)<0 by omega) h
  rw [e]
theorem fold_sink:∀ ops:List OpD,ops.reverse.foldl insD []=sinkL ops
  | []=>rfl
  | o::l=>by rw [List.reverse_cons,List.foldl_append,fold_sink l]; rfl
theorem fold_len (pre:List OpD):∀ L,(pre.foldl insD L).length=L.length+pre.length:=by
  induction pre with
  | nil=>intro L; rfl
  | cons o l ih=>intro L; rw [List.foldl_cons,ih,insD_len]; simp; omega
theorem ptr_val {σ:Nm} {Z:Nat→Prop} {w:World} {v:Value} {id off b c:Nat} (h:VR σ Z w v (.ptr id off)) (hs:σ id=some (b,c)):v=.pointer (some ⟨b,off,none⟩):=by
  cases h with
  | ptr _ _ b' c' h=>rw [hs] at h; simp only [Option.some.injEq,Prod.mk.injEq] at h; rw [h.1]
theorem fn_val {σ:Nm} {Z:Nat→Prop} {w:World} {v:Value} {f id b c:Nat} (h:VR σ Z w v (.fn f [] [.ptr id 0])) (hs:σ id=some (b,c)):v=.func (.func f) #[] #[.pointer (some ⟨b,0,none⟩)]:=by
  cases h with
  | fn _ l1 l2 _ _ hl1 hl2 h1 h2 =>
    obtain rfl:l1=[]:=List.length_eq_zero_iff.1 (by simpa using hl1)
    match l2,hl2 with
    | [u],_=>rw [ptr_val (h2 0 u _ rfl rfl) hs]
theorem rs_one {σ:Nm} {Z:Nat→Prop} {w:World} {N t:Nat} {a:Act} {x:PV} {u:Value} (hd:a.defers=[]) (hs:a.tmps.size=N) (h:a.tmps[t]?=some u) (hv:VR σ Z w u x):RS σ Z w N [] [⟨t,[],x⟩] a :=
  ⟨hd,hs,fun t' e he=>by
    simp only [PX.look] at he
    cases hb:Nat.beq t t' with
    | true=>rw [hb] at he; simp only [cond_true,Option.some.injEq] at he; subst he; obtain rfl:=Nat.eq_of_beq_eq_true hb; exact ⟨fun _=>⟨u,h,hv⟩,fun q=>by cases q⟩
    | false=>rw [hb] at he; cases he⟩
theorem rs_two {σ:Nm} {Z:Nat→Prop} {w:World} {N t t2:Nat} {a:Act} {x x2:PV} {u u2:Value} (hd:a.defers=[]) (hs:a.tmps.size=N) (h:a.tmps[t]?=some u) (hv:VR σ Z w u x) (h2:a.tmps[t2]?=some u2) (hv2:VR σ Z w u2 x2):RS σ Z w N [] [⟨t,[],x⟩,⟨t2,[],x2⟩] a :=
  ⟨hd,hs,fun t' e he=>by
    simp only [PX.look] at he
    cases hb:Nat.beq t t' with
    | true=>rw [hb] at he; simp only [cond_true,Option.some.injEq] at he; subst he; obtain rfl:=Nat.eq_of_beq_eq_true hb; exact ⟨fun _=>⟨u,h,hv⟩,fun q=>by cases q⟩
    | false=>rw [hb] at he; exact (rs_one hd hs h2 hv2).at_ t' e he⟩
end Go.Proofs.Ytlkcidmmpeebeaa

/- Proved: sink.order on plain data -/
namespace Go.Proofs.Ytlkcidmmpeebeaa
open Go.RowKit Go.PX
set_option maxRecDepth 100000
set_option maxHeartbeats 400000 in
theorem con_f120 (ops:List OpD):PX.Con Try.prog 120 [(.imm 11 (ops.map encO))] [] 1 100000 (.fn 150 [] [.ptr 1 0]) [(1,some (.box 55 [(.imm 11 (ops.map encO))]))]:=by
 refine PX.con_intro [(.imm 11 (ops.map encO))] 4 Try.func120 rfl rfl (by kernel_rfl) (by kernel_rfl) ?_
 intro E a hE hS
 generalize E.w0=w at hS ⊢
 have mix:=mixed
 refine PX.G [(.e 1 (.ptr 1 0))] [(1,.box 55 [(.imm 11 (ops.map encO))])] 2 [] [] [.au,.au] [1] [1] hS hE trivial fun a w hS=>?_
 refine PX.G [(.e 2 (.fn 150 [] [(.ptr 1 0)]))] [] 2 [] [] [.au,.au] [2] [1] hS hE trivial fun a w hS=>?_
 refine wp_ret ?_
 try simp only [Exit.then,Exit.inBlock,Nat.reduceEqDiff,↓reduceIte]
 exact PX.ret_s hS hE (by kernel_rfl) (by kernel_rfl) (by kernel_rfl) (.inl rfl)

set_option maxHeartbeats 2000000 in
theorem order_con (ops:List OpD) (hlen:ops.length≤100000):PX.Con Try.prog 78 [(.imm 11 (ops.map encO))] [] 1 100000 (.imm 11 ((sinkL ops).map encO)) []:=by
 refine PX.con_intro_w (n:=5) [(.imm 11 (ops.map encO))] 25 Try.func78 rfl rfl (by kernel_rfl) rfl ?_
 intro E a hE hS
 generalize E.w0=w at hS ⊢
 have mix:=mixed
 refine PX.Gw [] [] 1 [] [] [.au] [0] [] hS hE trivial fun a w hS=>?_
 refine PX.Gw [(.e 3 (.ptr 1 0))] [(1,.box 55 [(.sc (.slice none 0 0))])] 2 [] [] [.au] [0,3] [1] hS hE trivial fun a w hS=>?_
 refine wpIn_seq_k fun K1 hK1=>?_
 refine PX.Gw [(.e 7 (.fn 150 [] [(.ptr 2 0)]))] [(2,.box 55 [(.imm 11 (ops.map encO))])] 3 [.q (PX.Con Try.prog 120 [(.imm 11 (ops.map encO))] [] 2 3 (.fn 150 [] [(.ptr 2 0)]) [(2,some (.box 55 [(.imm 11 (ops.map encO))]))])] [] [.au,.cl [] (.fn 150 [] [(.ptr 2 0)]) [(2,some (.box 55 [(.imm 11 (ops.map encO))]))] 3] [0,3,7] [1,2] hS hE ⟨PX.con_as [(2,1)] [(1,2)] (con_f120 ops) (by kernel_rfl) (by kernel_rfl) (by kernel_rfl) (by kernel_rfl) (by kernel_rfl) (by kernel_rfl),trivial⟩ fun a w hS=>?_
 refine wpIn_block ?_
 have hwE:∀ b,¬ E.Wr b:=fun b q=>by rw [hE.wr] at q; obtain ⟨_,_,_,q,_⟩:=q; exact absurd rfl q
 obtain ⟨σ,Z,hr⟩:=hS
 have hsz:=hr.rs.size
 have hdf:=hr.rs.defers
 obtain ⟨bl,c1,C1,s1,g1,_,v1⟩:=hr.hr.at_ 1 _ rfl
 obtain ⟨u1,C1',rfl,hu1,hn1⟩:=v1.inv
 obtain rfl:C1'=[]:=List.length_eq_zero_iff.1 (by simpa using hn1.1)
 obtain rfl:u1=.slice none 0 0:=toV_spec hu1 rfl
 obtain ⟨bx,c2,C2,s2,g2,_,v2⟩:=hr.hr.at_ 2 _ rfl
 obtain ⟨sv,C2',rfl,hsv,hn2⟩:=v2.inv
 obtain rfl:C2'=[]:=List.length_eq_zero_iff.1 (by simpa using hn2.1)
 have hir:=hsv.ir rfl
 obtain ⟨A,cap,rfl,hreach,_⟩:=ir_ops hir
 obtain ⟨u3,ht3,hv3⟩:=(hr.rs.at_ 3 _ rfl).1 rfl
 obtain rfl:=ptr_val hv3 s1
 obtain ⟨u7,ht7,hv7⟩:=(hr.rs.at_ 7 _ rfl).1 rfl
 obtain rfl:=fn_val hv7 s2
 have hne:bx≠bl:=fun e=>absurd (hr.hr.inj 2 1 _ _ bx c2 c1 rfl rfl s2 (by rw [e]; exact s1)) (by decide)
 have hbl:E.w0.heap.size≤bl:=(hr.own 1 _ bl c1 rfl s1).resolve_right (hwE bl)
 have hlt:bl<w.heap.size:=(Array.getElem?_eq_some_iff.1 g1).1
 have hchE:=hr.chg
 have hZ:=hr.zold
 have hZ0:=hr.z0
 obtain ⟨Q,hQd⟩:∃ Q:World→Prop,Q=fun W=>W.heap[bx]?=some (.cells #[.slice A ops.length cap] 55 (0,0))∧IR Z W (.slice A ops.length cap) (.imm 11 (ops.map encO)):=⟨_,rfl⟩
 have hQ1:∀ W,Q W→W.cell? ⟨bx,0,none⟩=some (.slice A ops.length cap)∧∀ k o,ops[k]?=some o→∃ b off,A=some ⟨b,off,none⟩∧∀ (j:Nat) u,(opC o)[j]?=some u→W.cell? ⟨b,off+k*11+j,none⟩=some u:=fun W hq=>by
  rw [hQd] at hq
  obtain ⟨q1,q2⟩:=hq
  obtain ⟨A',cap',e,_,h⟩:=ir_ops q2
  injection e with e1 e2 e3
  subst e1
  exact ⟨by rw [cell_of_row W bx 0 _ 55 (0,0) q1]; rfl,h⟩
 have hQb:∀ W,Below w.heap.size w W→Q W:=fun W hb=>by
  rw [hQd]
  exact ⟨(hb.block bx (Array.getElem?_eq_some_iff.1 g2).1).trans g2,hir.cells (fun _ q=>q) fun p v q=>cell_below hb q⟩
 have hQt:∀ W W' row,W.grownBy W' row→(∀ r,row=some r→∃ o:Obj,W.heap[r]?=some o∧o.isCells=false)→Q W→Q W':=fun W W' row hg hrow hq=>by
  rw [hQd] at hq ⊢
  exact ⟨turn_heap hg hrow hq.1,hq.2.cells (fun _ q=>q) (turn_cell hg hrow)⟩
 have hQc:∀ W,Chg (fun b=>b=bl) w W→Q W:=fun W hc=>by
  rw [hQd]
  exact ⟨(hc.block bx (Array.getElem?_eq_some_iff.1 g2).1 hne).trans g2,hir.mono (fun _ q=>q) hc fun b hz e=>hr.hr.off 1 _ bl c1 rfl s1 (e ▸ hz)⟩
 refine wpIn_rangeFunc_ownH (F:=FW none) (α:=OpD) rfl (by omega) (gf:=150) (lb:=#[.pointer (some ⟨bx,0,none⟩)]) (by rw [with_eval]; simp [Act.eval,ht7]) trivial (enters_of Try.func150 (by kernel_rfl) rfl)
  (back_stops 4 (by omega) bx cap A ops hreach Q hQ1 w hQb) (fun h k q=>k (h q)) (fun W l o o' hl ho hc hw' q=>hQt W _ (some l) (grownBy_putObj' W l o') (fun r e=>by cases e; exact ⟨o,ho,hc⟩) q) (Below.refl _ _) (fun _=>rfl)
  (fun pre W=>pre.length≤ops.length∧LI w bl (pre.foldl insD []) W) (fun _ _ _=>False) (fun s W W' row hs hg' hr'=>⟨hs.1,hs.2.turn hg' hr'⟩) (fun _ _ _ _ _ hs _ _=>hs) ⟨Nat.zero_le _,.slice none 0 0,g1,World.ownsRow_nil w 0 74 11,fun g e=>(by cases e),Chg.refl _ _⟩
  (fun x a' W=>∃ b5,W.heap[b5]?=some (.cells (opC x).toArray 74 (0,0))∧w.heap.size≤b5∧a'.defers=[]∧a'.tmps.size=25∧a'.tmps[3]?=some (.P bl)∧a'.tmps[4]?=some (.P b5)∧∀ v,W.heap[bl]?=some (.cells #[v] 55 (0,0))→v.ownBlock≠some b5)
  ?hAx ?asg ?body ?done ?stop
 case hAx =>
  rintro x a' _ W W' row ⟨b5,g5,hb5,hd,hs,h3,h4,hn⟩ hg' hr'
  refine ⟨b5,turn_heap hg' (fun r e=>(hr' r e).2) g5,hb5,hd,hs,h3,h4,fun v hv=>hn v ?_⟩
  rw [← hg'.block bl (by have:=(Array.getElem?_eq_some_iff.1 g5).1; omega) fun e=>by have:=(hr' bl e.symm).1; omega]
  exact hv
 case stop =>
  rintro D c pre W _ _ h _
  exact h.elim
 case asg =>
  rintro l pre x W K ⟨hI0,v,h1,hown,hge,hch2⟩ hK
  have hvl:v.ownBlock≠some bl:=fun e=>by have:=hge bl e; omega
  have eT:∀ (t0:Array Value) (y:Value),(#[8].zip #[y]).foldl (fun t (p,v)=>t.setIfInBounds p v) t0=t0.setIfInBounds 8 y:=fun t0 y=>by simp
  rw [eT]
  change Code.wpIn (FW (some l)) _ _ _ _ (Act.with_ ⟨a.tmps.setIfInBounds 8 (opV x),[]⟩ []) W
  obtain ⟨Lp,hLp⟩:∃ L,L=pre.foldl insD []:=⟨_,rfl⟩
  have hLl:Lp.length=pre.length:=by rw [hLp,fold_len]; simp
  rw [← hLp] at hown hK
  obtain ⟨E2,e0,hE,hS,hs1,hwr,hz⟩:=open1 (a:=⟨a.tmps.setIfInBounds 8 (opV x),[]⟩) (L:=Lp) (R:=[⟨3,[],.ptr 1 0⟩,⟨8,[],.agg (encO x)⟩]) (by omega) h1 hown hvl (fun σ' q1=>rs_two rfl (by simp [hsz]) (u:=.pointer (some ⟨bl,0,none⟩)) (by rw [Array.getElem?_setIfInBounds_ne (by decide)]; exact ht3) (.ptr 1 0 bl 0 q1) (u2:=opV x) (by rw [Array.getElem?_setIfInBounds_self_of_lt (by omega)]) (.agg (opC x) (encO x) rfl rfl vrs_one.2))
  refine PX.G0w [(.e 4 (.ptr 5 0))] [(5,.box 74 (encO x))] 6 [] [] [.au,.au] [3,4,8] [1,4,5] hS hE trivial fun a2 w2 hS=>?_
  obtain ⟨σ2,Z2,hr2⟩:=hS
  have hwb:∀ b,E2.Wr b→b=bl∨w.heap.size≤b:=fun b q=>(hwr b q).imp (fun q=>q) (hge b)
  have hwr':∀ b,E2.Wr b→∃ C e s,W.heap[b]?=some (.cells C e s):=fun b q=>(hwr b q).elim (fun q=>⟨_,_,_,q ▸ h1⟩) (own_heap hown)
  have hch3:=hr2.chg
  rw [e0] at hch3
  have hch4:=chg_step hch2 hch3 hwb
  have hWs:w.heap.size≤E2.w0.heap.size:=by rw [e0]; exact hch2.size
  obtain ⟨v2,p1,p2,p3⟩:=close_ (L:=Lp) hr2 rfl rfl (by decide) hs1
  have hge2:∀ g,v2.ownBlock=some g→w.heap.size≤g:=fun g e=>by
   obtain ⟨q1,q2,_⟩:=p3 g e
   rcases q2 with q2 | q2
   ·omega
   ·exact (hwb g q2).resolve_left q1
  obtain ⟨b5,c5,C5,s5,g5,_,v5⟩:=hr2.hr.at_ 5 _ rfl
  have e5:=toCells_spec v5 (show toCells (encO x)=some (opC x) from rfl)
  subst e5
  obtain ⟨u4,ht4,hv4⟩:=(hr2.rs.at_ 4 _ rfl).1 rfl
  obtain rfl:=ptr_val hv4 s5
  have s1':=hr2.ext 1 _ hs1
  obtain ⟨u3',ht3',hv3'⟩:=(hr2.rs.at_ 3 _ rfl).1 rfl
  obtain rfl:=ptr_val hv3' s1'
  have hb5:w.heap.size≤b5:=by
   rcases hr2.own 5 _ b5 c5 rfl s5 with q | q
   ·omega
   ·refine (hwb b5 q).resolve_left fun e=>?_
    subst e
    exact absurd (hr2.hr.inj 5 1 _ _ b5 c5 0 rfl rfl s5 s1') (by decide)
  refine hK _ _ (keeps_chg hch3 hwr') (fun _=>hQc _ hch4) ⟨hI0,v2,p1,p2,hge2,hch4⟩ ⟨b5,g5,hb5,rfl,hr2.rs.size,ht3',ht4,fun v' hv' e=>?_⟩
  rw [p1] at hv'
  obtain rfl:v2=v':=by simpa using hv'
  obtain ⟨_,_,c,q⟩:=p3 b5 e
  exact absurd (hr2.hr.inj 4 5 _ _ b5 c c5 rfl rfl q s5) (by decide)
 case body =>
  rintro l pre x ⟨tm,df⟩ W hl _ ⟨hI0,v,h1,hown,hge,hch2⟩ ⟨b5,g5,hb5,hd,hsz',ht3',ht4,hne5⟩ hlt2
  obtain rfl:df=[]:=hd
  change Code.wpIn (FW (some l)) _ _ _ _ (Act.with_ ⟨tm,[]⟩ []) W
  have hvl:v.ownBlock≠some bl:=fun e=>by have:=hge bl e; omega
  have hfold:(pre++[x]).foldl insD []=insD (pre.foldl insD []) x:=by rw [List.foldl_append]; rfl
  obtain ⟨Lp,hLp⟩:∃ L,L=pre.foldl insD []:=⟨_,rfl⟩
  have hLl:Lp.length=pre.length:=by rw [hLp,fold_len]; simp
  rw [← hLp] at hown hfold
  obtain ⟨E2,e0,hE,hS,hs1,hwr⟩:=open2 (a:=⟨tm,[]⟩) (L:=Lp) (x:=x) (R:=[⟨3,[],.ptr 1 0⟩,⟨4,[],.ptr 3 0⟩]) (by omega) h1 g5 hown hvl (hne5 v h1) (by omega) (fun σ' q1 q3=>rs_two rfl hsz' ht3' (.ptr 1 0 bl 0 q1) ht4 (.ptr 3 0 b5 0 q3))
  refine wpIn_block ?_
  refine PX.Gw [(.e 5 (.J 0))] [] 5 [] [] [.au] [3,4,5] [1,3,4] hS hE trivial fun a2 w2 hS=>?_
  refine wpIn_seq_k fun K2 hK2=>?_
  refine PX.Gw [(.e 9 (.ptr 3 0)),(.e 10 (.J x.kind)),(.e 11 (.sc (.bool (movesD x.kind))))] [] 5 [.q (PX.Con Try.prog 121 [(.J x.kind)] [] 5 5 (.sc (.bool (movesD x.kind))) [])] [] [.au,.au,.cl [] (.sc (.bool (movesD x.kind))) [] 5] [3,4,5,9,10,11] [1,3,4] hS hE ⟨con_f121_any x.kind,trivial⟩ fun a2 w2 hS=>?_
  refine PX.cond_w (movesD x.kind) hS (by kernel_rfl) (fun h3=>?_) (fun h3=>?_)
  ·skip
   refine PX.Gw [(.e 5 (.sc (.I (idxD Lp x.dst)))),(.e 12 (.own 4 11 Lp.length)),(.e 13 (.fn 123 [] [(.ptr 3 0)])),(.e 14 (.sc (.I (idxD Lp x.dst))))] [] 5 [.q (PX.Con Try.prog 122 [(.own 4 11 Lp.length),(.fn 123 [] [(.ptr 3 0)])] [(3,.box 74 (encO x)),(4,.row 74 11 true (Lp.map encO))] 5 5 (.sc (.I (idxD Lp x.dst))) [(3,some (.box 74 (encO x))),(4,some (.row 74 11 true (Lp.map encO)))])] [] [.au,.au,.cl [3,4] (.sc (.I (idxD Lp x.dst))) [(3,some (.box 74 (encO x))),(4,some (.row 74 11 true (Lp.map encO)))] 5,.au] [3,4,5,9,10,11,12,13,14] [1,3,4] hS hE ⟨PX.con_as [(3,1),(4,2)] [(1,3),(2,4)] (con_f122 Lp x (by omega)) (by kernel_rfl) (by kernel_rfl) (by kernel_rfl) (by kernel_rfl) (by kernel_rfl) (by kernel_rfl),trivial⟩ fun a2 w2 hS=>?_
   refine PX.Gw [(.e 15 (.sc (.I (idxD Lp x.dst)))),(.e 16 (.sc (.bool (decide ((idxD Lp x.dst)<0)))))] [] 5 [] [] [.au,.au] [3,4,5,9,10,11,12,13,14,15,16] [1,3,4] hS hE trivial fun a2 w2 hS=>?_
   refine PX.cond_w (decide ((idxD Lp x.dst)<0)) hS (by kernel_rfl) (fun h4=>?_) (fun h4=>?_)
   ·skip
    refine PX.G0w [(.e 5 (.sc (.I (Lp.length:Int)))),(.e 17 (.own 4 11 Lp.length)),(.e 18 (.sc (.I (Lp.length:Int))))] [] 5 [] [] [.au,.au,.au] [3,4,5,9,10,11,12,13,14,15,16,17,18] [1,3,4] hS hE trivial fun a2 w2 hS=>?_
    refine hK2 _ _ ?_
    replace hS:=PX.sl [3,4,5,9,10,11,12,13,14,15,16,17,18] (PX.reslot (t:=5) (.sc (.I ((atD Lp x:Nat):Int))) hS rfl (fun _ _ _ _ h=>(idx_none h3 (of_decide_eq_true h4)) ▸ h))
    refine PX.G0w [(.e 19 (.own 4 11 Lp.length)),(.e 20 (.sc (.I ((atD Lp x:Nat):Int)))),(.e 21 (.agg (encO x))),(.e 22 (.own 5 11 1)),(.e 23 (.own 6 11 (Lp.length+1)))] [(1,.box 55 [(.own 6 11 (Lp.length+1))]),(5,.row 74 11 true ([(encO x)])),(6,.row 74 11 true ((insD Lp x).map encO))] 7 [.q (PX.Con Try.prog 125 [(.own 4 11 Lp.length),(.sc (.I ((atD Lp x:Nat):Int))),(.own 5 11 1)] [(4,.row 74 11 true (Lp.map encO)),(5,.row 74 11 true ([(encO x)]))] 6 7 (.own 6 11 (Lp.length+1)) [(6,some (.row 74 11 true ((insD Lp x).map encO))),(4,none)])] [] [.au,.au,.au,.au,.cl [4,5] (.own 6 11 (Lp.length+1)) [(6,some (.row 74 11 true ((insD Lp x).map encO))),(4,none)] 7,.au] [3,4,5,9,10,11,12,13,14,15,16,17,18,19,20,21,22,23] [1,3,5,6] hS hE ⟨PX.con_as [(4,1),(5,2),(6,3)] [(1,4),(2,5),(3,6)] (con_ins Lp x (atD Lp x) (atD_le Lp x) (by omega)) (by kernel_rfl) (by kernel_rfl) (by kernel_rfl) (by kernel_rfl) (by kernel_rfl) (by kernel_rfl),trivial⟩ fun a2 w2 hS=>?_
    replace hS:=PX.sl [3] hS
    replace hS:=(PX.canon [(5,6)] [(.e 3 (.ptr 1 0))] [(1,.box 55 [(.own 5 11 (Lp.length+1))]),(5,.row 74 11 true ((insD Lp x).map encO))] 6 hS hE (by kernel_rfl) (by kernel_rfl) (by kernel_rfl))
    rw [show Lp.length+1=(insD Lp x).length from (insD_len Lp x).symm] at hS
    obtain ⟨σ2,Z2,hr2⟩:=hS
    have hwb:∀ b,E2.Wr b→b=bl∨w.heap.size≤b:=fun b q=>(hwr b q).imp (fun q=>q) fun q=>q.elim (fun q=>q ▸ hb5) (hge b)
    have hwr':∀ b,E2.Wr b→∃ C e s,W.heap[b]?=some (.cells C e s):=fun b q=>(hwr b q).elim (fun q=>⟨_,_,_,q ▸ h1⟩) fun q=>q.elim (fun q=>⟨_,_,_,q ▸ g5⟩) (own_heap hown)
    have hch3:=hr2.chg
    rw [e0] at hch3
    have hch4:=chg_step hch2 hch3 hwb
    have hWs:w.heap.size≤E2.w0.heap.size:=by rw [e0]; exact hch2.size
    obtain ⟨v2,p1,p2,p3⟩:=close_ (L:=insD Lp x) hr2 rfl rfl (by decide) hs1
    have hge2:∀ g,v2.ownBlock=some g→w.heap.size≤g:=fun g e=>by
     obtain ⟨q1,q2,_⟩:=p3 g e
     rcases q2 with q2 | q2
     ·omega
     ·exact (hwb g q2).resolve_left q1
    refine ⟨keeps_chg hch3 hwr',fun _=>hQc _ hch4,by simp; omega,?_⟩
    show LI w bl ((pre++[x]).foldl insD []) _
    rw [hfold]
    exact ⟨v2,p1,p2,hge2,hch4⟩
   ·skip
    refine wpIn_skip ?_
    refine hK2 _ _ ?_
    replace hS:=PX.sl [3,4,5,9,10,11,12,13,14,15,16] (PX.reslot (t:=5) (.sc (.I ((atD Lp x:Nat):Int))) hS rfl (fun _ _ _ _ h=>(idx_some h3 (of_decide_eq_false h4)) ▸ h))
    refine PX.G0w [(.e 19 (.own 4 11 Lp.length)),(.e 20 (.sc (.I ((atD Lp x:Nat):Int)))),(.e 21 (.agg (encO x))),(.e 22 (.own 5 11 1)),(.e 23 (.own 6 11 (Lp.length+1)))] [(1,.box 55 [(.own 6 11 (Lp.length+1))]),(5,.row 74 11 true ([(encO x)])),(6,.row 74 11 true ((insD Lp x).map encO))] 7 [.q (PX.Con Try.prog 125 [(.own 4 11 Lp.length),(.sc (.I ((atD Lp x:Nat):Int))),(.own 5 11 1)] [(4,.row 74 11 true (Lp.map encO)),(5,.row 74 11 true ([(encO x)]))] 6 7 (.own 6 11 (Lp.length+1)) [(6,some (.row 74 11 true ((insD Lp x).map encO))),(4,none)])] [] [.au,.au,.au,.au,.cl [4,5] (.own 6 11 (Lp.length+1)) [(6,some (.row 74 11 true ((insD Lp x).map encO))),(4,none)] 7,.au] [3,4,5,9,10,11,12,13,14,15,16,19,20,21,22,23] [1,3,5,6] hS hE ⟨PX.con_as [(4,1),(5,2),(6,3)] [(1,4),(2,5),(3,6)] (con_ins Lp x (atD Lp x) (atD_le Lp x) (by omega)) (by kernel_rfl) (by kernel_rfl) (by kernel_rfl) (by kernel_rfl) (by kernel_rfl) (by kernel_rfl),trivial⟩ fun a2 w2 hS=>?_
    replace hS:=PX.sl [3] hS
    replace hS:=(PX.canon [(5,6)] [(.e 3 (.ptr 1 0))] [(1,.box 55 [(.own 5 11 (Lp.length+1))]),(5,.row 74 11 true ((insD Lp x).map encO))] 6 hS hE (by kernel_rfl) (by kernel_rfl) (by kernel_rfl))
    rw [show Lp.length+1=(insD Lp x).length from (insD_len Lp x).symm] at hS
    obtain ⟨σ2,Z2,hr2⟩:=hS
    have hwb:∀ b,E2.Wr b→b=bl∨w.heap.size≤b:=fun b q=>(hwr b q).imp (fun q=>q) fun q=>q.elim (fun q=>q ▸ hb5) (hge b)
    have hwr':∀ b,E2.Wr b→∃ C e s,W.heap[b]?=some (.cells C e s):=fun b q=>(hwr b q).elim (fun q=>⟨_,_,_,q ▸ h1⟩) fun q=>q.elim (fun q=>⟨_,_,_,q ▸ g5⟩) (own_heap hown)
    have hch3:=hr2.chg
    rw [e0] at hch3
    have hch4:=chg_step hch2 hch3 hwb
    have hWs:w.heap.size≤E2.w0.heap.size:=by rw [e0]; exact hch2.size
    obtain ⟨v2,p1,p2,p3⟩:=close_ (L:=insD Lp x) hr2 rfl rfl (by decide) hs1
    have hge2:∀ g,v2.ownBlock=some g→w.heap.size≤g:=fun g e=>by
     obtain ⟨q1,q2,_⟩:=p3 g e
     rcases q2 with q2 | q2
     ·omega
     ·exact (hwb g q2).resolve_left q1
    refine ⟨keeps_chg hch3 hwr',fun _=>hQc _ hch4,by simp; omega,?_⟩
    show LI w bl ((pre++[x]).foldl insD []) _
    rw [hfold]
    exact ⟨v2,p1,p2,hge2,hch4⟩
  ·skip
   refine wpIn_skip ?_
   refine hK2 _ _ ?_
   replace hS:=PX.sl [3,4,5,9,10,11] (PX.reslot (t:=5) (.sc (.I ((atD Lp x:Nat):Int))) hS rfl (fun _ _ _ _ h=>(atD_no h3) ▸ h))
   refine PX.G0w [(.e 19 (.own 4 11 Lp.length)),(.e 20 (.sc (.I ((atD Lp x:Nat):Int)))),(.e 21 (.agg (encO x))),(.e 22 (.own 5 11 1)),(.e 23 (.own 6 11 (Lp.length+1)))] [(1,.box 55 [(.own 6 11 (Lp.length+1))]),(5,.row 74 11 true ([(encO x)])),(6,.row 74 11 true ((insD Lp x).map encO))] 7 [.q (PX.Con Try.prog 125 [(.own 4 11 Lp.length),(.sc (.I ((atD Lp x:Nat):Int))),(.own 5 11 1)] [(4,.row 74 11 true (Lp.map encO)),(5,.row 74 11 true ([(encO x)]))] 6 7 (.own 6 11 (Lp.length+1)) [(6,some (.row 74 11 true ((insD Lp x).map encO))),(4,none)])] [] [.au,.au,.au,.au,.cl [4,5] (.own 6 11 (Lp.length+1)) [(6,some (.row 74 11 true ((insD Lp x).map encO))),(4,none)] 7,.au] [3,4,5,9,10,11,19,20,21,22,23] [1,3,5,6] hS hE ⟨PX.con_as [(4,1),(5,2),(6,3)] [(1,4),(2,5),(3,6)] (con_ins Lp x (atD Lp x) (atD_le Lp x) (by omega)) (by kernel_rfl) (by kernel_rfl) (by kernel_rfl) (by kernel_rfl) (by kernel_rfl) (by kernel_rfl),trivial⟩ fun a2 w2 hS=>?_
   replace hS:=PX.sl [3] hS
   replace hS:=(PX.canon [(5,6)] [(.e 3 (.ptr 1 0))] [(1,.box 55 [(.own 5 11 (Lp.length+1))]),(5,.row 74 11 true ((insD Lp x).map encO))] 6 hS hE (by kernel_rfl) (by kernel_rfl) (by kernel_rfl))
   rw [show Lp.length+1=(insD Lp x).length from (insD_len Lp x).symm] at hS
   obtain ⟨σ2,Z2,hr2⟩:=hS
   have hwb:∀ b,E2.Wr b→b=bl∨w.heap.size≤b:=fun b q=>(hwr b q).imp (fun q=>q) fun q=>q.elim (fun q=>q ▸ hb5) (hge b)
   have hwr':∀ b,E2.Wr b→∃ C e s,W.heap[b]?=some (.cells C e s):=fun b q=>(hwr b q).elim (fun q=>⟨_,_,_,q ▸ h1⟩) fun q=>q.elim (fun q=>⟨_,_,_,q ▸ g5⟩) (own_heap hown)
   have hch3:=hr2.chg
   rw [e0] at hch3
   have hch4:=chg_step hch2 hch3 hwb
   have hWs:w.heap.size≤E2.w0.heap.size:=by rw [e0]; exact hch2.size
   obtain ⟨v2,p1,p2,p3⟩:=close_ (L:=insD Lp x) hr2 rfl rfl (by decide) hs1
   have hge2:∀ g,v2.ownBlock=some g→w.heap.size≤g:=fun g e=>by
    obtain ⟨q1,q2,_⟩:=p3 g e
    rcases q2 with q2 | q2
    ·omega
    ·exact (hwb g q2).resolve_left q1
   refine ⟨keeps_chg hch3 hwr',fun _=>hQc _ hch4,by simp; omega,?_⟩
   show LI w bl ((pre++[x]).foldl insD []) _
   rw [hfold]
   exact ⟨v2,p1,p2,hge2,hch4⟩
 case done =>
  rintro D xs W hD rfl ⟨hI0,v,h1,hown,hge,hch2⟩ hKD
  rw [fold_sink] at hown
  have hvl:v.ownBlock≠some bl:=fun e=>by have:=hge bl e; omega
  refine hK1 (Act.with_ a [⟨.collected D,#[]⟩]) W ?_
  obtain ⟨E2,e0,hE,hS,hs1,hwr,hz⟩:=open1 (a:=a) (L:=sinkL ops) (R:=[⟨3,[],.ptr 1 0⟩]) (by rw [sinkL_len]; omega) h1 hown hvl (fun σ' q1=>rs_one hdf hsz ht3 (.ptr 1 0 bl 0 q1))
  refine wpIn_seq_k fun K hK=>?_
  refine PX.G0w [(.e 2 (.own 4 11 ((sinkL ops).length)))] [] 5 [] [] [.au,.au] [2] [1,4] hS hE trivial fun a2 w2 hS=>?_
  replace hS:=PX.fz 4 [(.e 2 (.imm 11 ((sinkL ops).map encO)))] [(1,.box 55 [(.imm 11 ((sinkL ops).map encO))])] [2] [1] [.b (PX.lenIs ((sinkL ops).length) ((sinkL ops).map encO)),.b (PX.lenIs ((sinkL ops).length) ((sinkL ops).map encO))] hS ⟨(by simp [PX.lenIs]),(by simp [PX.lenIs]),trivial⟩
  refine hK _ _ ?_
  refine wpIn_ret ?_
  obtain ⟨σ2,Z2,hr2⟩:=hS
  have hch3:=hr2.chg
  rw [e0] at hch3
  have hwb:∀ b,E2.Wr b→b=bl∨w.heap.size≤b:=fun b q=>(hwr b q).imp (fun q=>q) (hge b)
  have hwr':∀ b,E2.Wr b→∃ C e s,W.heap[b]?=some (.cells C e s):=fun b q=>(hwr b q).elim (fun q=>⟨_,_,_,q ▸ h1⟩) (own_heap hown)
  have hch4:=chg_step hch2 hch3 hwb
  have hKD2:=(keeps_chg (B:=0) hch3 hwr').same D _ (Nat.zero_le _) hKD rfl
  obtain ⟨u2,ht2,hv2⟩:=(hr2.rs.at_ 2 _ rfl).1 rfl
  have hir2:=hv2.ir rfl
  have hturn:=turn_cell (grownBy_putObj' w2 D (.deferred none)) (fun r e=>by cases e; exact ⟨_,hKD2,rfl⟩)
  have hWs:w.heap.size≤E2.w0.heap.size:=by rw [e0]; exact hch2.size
  have hEs:=hchE.size
  refine ⟨by simp,.inl ⟨D,_,rfl,run_takeDeferred hKD2,?_⟩⟩
  refine ⟨u2,?_,⟨u2,E.σ0,fun b=>E.Z0 b∨Z2 b,rfl,(hir2.cells (fun b q=>.inr q) hturn).vr,Ext.refl _,fun id h _=>h,fun b q=>.inl q,fun b q=>?_,?_,fun id o q=>(by simp [ulook] at q),fun id o b c q=>(by simp [ulook] at q),fun id id' o o' b c c' q=>(by simp [ulook] at q)⟩⟩
  ·have hres:=results_tmp (fn:=Try.f78) (t:=2) rfl a2.tmps Try.prog (w2.putObj D (.deferred none))
   rw [show a2.tmps.getD 2 undef=u2 by simp [ht2]] at hres
   exact hres
  ·refine q.imp (fun q=>q) fun q=>.inl ?_
   have hlt2:b<w2.heap.size:=hr2.hr.zlt b q
   refine ⟨?_,by simpa using hlt2⟩
   rcases hr2.zold b q with q | q | q
   ·exact absurd q (hz b)
   ·omega
   ·rcases hwb b q with q | q
    ·rw [q]; exact hbl
    ·omega
  ·refine ⟨hch4.os.trans hchE.os,hch4.tape.trans hchE.tape,hch4.output.trans hchE.output,?_,fun b hb _=>?_⟩
   ·have:=hch4.size
    simpa using Nat.le_trans hEs this
   ·rw [World.putObj_heap_other (by omega),hch4.block b (by omega) (by omega)]
    exact hchE.block b hb (hwE b)
end Go.Proofs.Ytlkcidmmpeebeaa
