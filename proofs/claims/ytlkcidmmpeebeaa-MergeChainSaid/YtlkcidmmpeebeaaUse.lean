/- Proved: the iterator of merge.uses gives the places of a terminator's values. -/
import Derived.Test.YtlkcidmmpeebeaaPcP
import Derived.Test.YtlkcidmmpeebeaaMgP
import Derived.LoopIn
import Derived.WalkKit
import Derived.TacticsInMore
import Derived.Shelf.Abstract
import Derived.Shelf.RegionOpen
set_option linter.unusedVariables false
set_option linter.unusedSimpArgs false
namespace Go.Proofs.Ytlkcidmmpeebeaa
open Go.RowKit Go.Shelf
attribute [local go_sem] Oper.semAt_some

/-- the terminator holds a value in its field A -/
def hasA (k:Int):Bool:=(k==2)||(k==4)||(k==5)
/-- the places of a terminator's values,up to element i of list r -/
def useQ (k:Int) (nn:Nat→Nat) (r i:Nat):List (Nat × Nat):=(if hasA k=true then [(0,0)] else [])++(List.range r).flatMap (fun r=>(List.range (nn r)).map fun i=>(r+1,i))++(List.range i).map fun i=>(r+1,i)
def useP (k:Int) (nn:Nat→Nat):List (Nat × Nat):=useQ k nn 3 0
theorem useQ_in (k:Int) (nn:Nat→Nat) (r i:Nat):useQ k nn r (i+1)=useQ k nn r i++[(r+1,i)]:=by
  unfold useQ; rw [List.range_succ,List.map_append,← List.append_assoc]; rfl
theorem useQ_out (k:Int) (nn:Nat→Nat) (r:Nat):useQ k nn (r+1) 0=useQ k nn r (nn r):=by
  unfold useQ; rw [List.range_succ,List.flatMap_append]; simp
/-- where a place lies -/
def useA (tb tf:Nat) (bb:Nat→Nat) (p:Nat × Nat):Value:=match p.1 with
  | 0=>.pointer (some ⟨tb,tf+1,none⟩)
  | r+1=>.pointer (some ⟨bb r,p.2,none⟩)

theorem arr55 (t:Array Value) (h:t.size=55):∃ v:Nat→Value,t=#[v 0,v 1,v 2,v 3,v 4,v 5,v 6,v 7,v 8,v 9,v 10,v 11,v 12,v 13,v 14,v 15,v 16,v 17,v 18,v 19,v 20,v 21,v 22,v 23,v 24,v 25,v 26,v 27,v 28,v 29,v 30,v 31,v 32,v 33,v 34,v 35,v 36,v 37,v 38,v 39,v 40,v 41,v 42,v 43,v 44,v 45,v 46,v 47,v 48,v 49,v 50,v 51,v 52,v 53,v 54]∧∀ j,j<55→t[j]?=some (v j):=by
  refine ⟨fun j=>t.getD j undef,?_,fun j hj=>?_⟩
  · have e:t=((List.range 55).map fun j=>t.getD j undef).toArray:=by
      apply Array.ext
      · simp [h]
      · intro i h1 h2
        simp [h1]
    exact e
  · have:j<t.size:=by omega
    simp [this]
/-- the loops of uses -/
noncomputable def useTail:Code:=match Try.f149.body with
  | some (.seq _ c)=>c
  | _=>.skip
set_option maxRecDepth 100000 in
set_option maxHeartbeats 2000000 in
theorem use_r5 (n:Nat) (y:Value) (cb tb tf:Nat) (u:Nat→Value) (hy:y.oneCell'=true) (a:Act) (W:World) (hd:a.defers=[]) (hs:a.tmps.size=55) (h0:a.tmps[0]?=some y) (h1:a.tmps[1]?=some (.pointer (some ⟨cb,0,none⟩)))
    (hc:W.cell? ⟨cb,0,none⟩=some (.pointer (some ⟨tb,tf,none⟩))) (hu:∀ j,j<8→W.cell? ⟨tb,tf+j,none⟩=some (u j)∧(u j).oneCell'=true) (Q:Exit→Act→World→Prop)
    (k:∀ tm W' nb cap,tm.size=55→tm[0]?=some y→tm[36]?=some (.slice (some ⟨nb,0,none⟩) 3 cap)→tm[37]?=some (.int .i64 3)→tm[38]?=some (.int .i64 0)→W.heap.size≤nb→W.grownBy W' none→(∃ C e,W'.heap[nb]?=some (.cells C e (0,0))∧C.toList.take 3=[u 3,u 5,u 7])→Q .normal ⟨tm,[]⟩ W') :
    ∀ l,(match useTail with | .seq (.region _ ops _) _=>ops | _=>#[])=(l:List Oper).toArray→(Code.region 5 l.toArray true).wpIn Fence.wide n Try.prog Q a W:=by
  intro l hl
  have hl':l=(match useTail with | .seq (.region _ ops _) _=>ops | _=>#[]).toList:=by rw [hl]
  clear hl
  obtain ⟨tm,df⟩:=a
  simp only at hd hs h0 h1
  subst hd
  have scu:∀ j,j<8→PX.scOk (u j)=true:=fun j hj=>by have:=(hu j hj).2; cases hq:u j <;> rw [hq] at this <;> first | rfl | cases this
  have hbc:∀ {p:Addr} {v:Value},W.cell? p=some v→p.block<W.heap.size:=fun h=>World.block_lt_of_cell? W _ h
  let E1:PX.Env:={ w0:=W,Wr:=fun _=>False,Z0:=fun b=>b=cb∨b=tb,σ0:=fun _=>none,lo:=2,top:=100 }
  have hS:PX.Sat E1 55 [⟨0,[],.sc y⟩,⟨1,[],.iptr [.sc (.pointer (some ⟨tb,tf,none⟩))] 0⟩] [(1,.ty (.pointer (some ⟨tb,tf,none⟩)) (.iptr [.sc (u 0),.sc (u 1),.sc (u 2),.sc (u 3),.sc (u 4),.sc (u 5),.sc (u 6),.sc (u 7)] 0))] 2 ⟨tm,[]⟩ W:=by
    refine ⟨fun _=>none,fun b=>b=cb∨b=tb,⟨rfl,hs,fun t e he=>?_⟩,⟨fun id o ho=>?_,fun _ _ _ _ _ _ _ _ _ q=>(by cases q),fun _ _ _ _ _ q=>(by cases q),fun b q=>?_⟩,fun id q1 q2=>⟨rfl,?_⟩,Nat.le_refl _,fun _ _ q=>(by cases q),fun _ _ _=>rfl,fun _ _ _ _ _ q=>(by cases q),PX.Chg.refl _ _,fun b q=>.inl q,fun b q=>q⟩
    · simp only [PX.look] at he
      cases e0:Nat.beq 0 t with
      | true =>
        rw [e0] at he; simp only [cond_true,Option.some.injEq] at he; subst he
        obtain rfl:=Nat.eq_of_beq_eq_true e0
        exact ⟨fun _=>⟨y,h0,.sc y (by cases hq:y <;> rw [hq] at hy <;> first | rfl | cases hy)⟩,fun q=>by cases q⟩
      | false =>
        rw [e0] at he; simp only [cond_false] at he
        cases e1:Nat.beq 1 t with
        | true =>
          rw [e1] at he; simp only [cond_true,Option.some.injEq] at he; subst he
          obtain rfl:=Nat.eq_of_beq_eq_true e1
          refine ⟨fun _=>⟨_,h1,?_⟩,fun q=>by cases q⟩
          refine PX.VR.iptr cb 0 0 [.sc (.pointer (some ⟨tb,tf,none⟩))] (fun _=>.pointer (some ⟨tb,tf,none⟩)) rfl (.inl rfl) (fun j hj=>?_) (fun j x hx=>?_)
          · have:j=0:=by simpa using hj
            subst this; exact hc
          · have hj:=(List.getElem?_eq_some_iff.1 hx).1
            have:j=0:=by simpa using hj
            subst this
            simp only [List.getElem?_cons_zero,Option.some.injEq] at hx; subst hx
            exact .sc _ rfl
        | false=>rw [e1] at he; cases he
    · simp only [PX.hlook] at ho
      cases e0:Nat.beq 1 id with
      | true =>
        rw [e0] at ho; simp only [cond_true,Option.some.injEq] at ho; subst ho
        refine ⟨rfl,rfl,?_⟩
        refine PX.VR.iptr tb tf 0 [.sc (u 0),.sc (u 1),.sc (u 2),.sc (u 3),.sc (u 4),.sc (u 5),.sc (u 6),.sc (u 7)] u rfl (.inr rfl) (fun j hj=>(hu j hj).1) (fun j x hx=>?_)
        match j,hx with
        | 0,hx | 1,hx | 2,hx | 3,hx | 4,hx | 5,hx | 6,hx | 7,hx=>simp only [List.getElem?_cons_zero,List.getElem?_cons_succ,Option.some.injEq] at hx; subst hx; exact .sc _ (scu _ (by decide))
        | j+8,hx=>simp at hx
      | false=>rw [e0] at ho; cases ho
    · rcases q with rfl | rfl
      · exact hbc hc
      · have:=hbc (hu 0 (by decide)).1; exact this
    · simp only [PX.hlook]
      have:Nat.beq 1 id=false:=by cases q:Nat.beq 1 id with | false=>rfl | true=>have:=Nat.eq_of_beq_eq_true q; omega
      rw [this]; rfl
  subst hl'
  refine PX.any_w (dfs:=[]) (ro:=none) (E:=E1) (T:=[⟨0,[],.sc y⟩,⟨36,[],.own 2 1 3⟩,⟨37,[],.sc (.int .i64 ((3:Nat):Int))⟩,⟨38,[],.sc (.int .i64 0)⟩]) (H':=[(2,.row 35 1 true [[.sc (u 3)],[.sc (u 5)],[.sc (u 7)]])]) (nx':=3) (obs:=[.q ((Value.pointer (some ⟨tb,tf,none⟩))=.pointer (some ⟨tb,tf,none⟩)),.q ((Value.pointer (some ⟨tb,tf,none⟩))=.pointer (some ⟨tb,tf,none⟩)),.q ((Value.pointer (some ⟨tb,tf,none⟩))=.pointer (some ⟨tb,tf,none⟩))]) [] [.rt [] [(0,1)],.au,.au,.au,.rt [] [(0,1)],.au,.au,.au,.au,.au,.rt [] [(0,1)],.au,.au,.au,.au,.au,.au,.au,.au] [0,36,37,38] [2] hS (by kernel_rfl) mixed (by kernel_rfl) (by kernel_rfl) (show 3≤100 by decide) ⟨rfl,rfl,rfl,trivial⟩ (by kernel_rfl) fun a' W' hS'=>?_
  obtain ⟨σ',Z',hr⟩:=hS'
  have hdf:=hr.rs.defers
  have hs':=hr.rs.size
  have g0:=(hr.rs.at_ 0 _ rfl).1 rfl
  have g36:=(hr.rs.at_ 36 _ rfl).1 rfl
  have g37:=(hr.rs.at_ 37 _ rfl).1 rfl
  have g38:=(hr.rs.at_ 38 _ rfl).1 rfl
  obtain ⟨w0,e0,q0⟩:=g0; cases q0
  obtain ⟨w36,e36,q36⟩:=g36
  obtain ⟨w37,e37,q37⟩:=g37; cases q37
  obtain ⟨w38,e38,q38⟩:=g38; cases q38
  obtain ⟨r1,r2,r3⟩:=hr.hr.at_ 2 _ rfl
  cases q36 with
  | own _ _ _ nb cap hs2 =>
    obtain ⟨C,c1,c2,c3,c4,c5⟩:=r3 nb cap hs2
    have hown:=hr.own 2 _ nb cap rfl hs2
    have hgr:W.grownBy W' none:=⟨hr.chg.os,hr.chg.tape,hr.chg.output,hr.chg.size,fun b hb _=>hr.chg.block b hb fun q=>q⟩
    obtain ⟨tm',df'⟩:=a'
    simp only at hdf hs' e0 e36 e37 e38
    subst hdf
    refine k tm' W' nb cap hs' e0 e36 e37 e38 (hown.elim (fun q=>q) fun q=>q.elim) hgr ⟨_,_,c1,?_⟩
    exact PX.toCells_spec c5.1 rfl
theorem useQ_mono (k:Int) (nn:Nat→Nat) (r i:Nat):∀ d,useQ k nn r i <+: useQ k nn r (i+d)
  | 0=>List.prefix_refl _
  | d+1=>(useQ_mono k nn r i d).trans (by rw [← Nat.add_assoc,useQ_in]; exact List.prefix_append _ _)
theorem useQ_all (k:Int) (nn:Nat→Nat) {r i:Nat} (hr:r<3) (hi:i≤nn r):useQ k nn r i <+: useP k nn:=by
  have h1:useQ k nn r i <+: useQ k nn (r+1) 0:=by
    rw [useQ_out]
    have:=useQ_mono k nn r i (nn r-i)
    rwa [show i+(nn r-i)=nn r by omega] at this
  have h2:∀ d,useQ k nn (r+1) 0 <+: useQ k nn (r+1+d) 0:=fun d=>by
    induction d with
    | zero=>exact List.prefix_refl _
    | succ d ih =>
      refine ih.trans ?_
      rw [← Nat.add_assoc,useQ_out]
      have:=useQ_mono k nn (r+1+d) 0 (nn (r+1+d))
      rwa [Nat.zero_add] at this
  have:=h1.trans (h2 (3-(r+1)))
  rwa [show r+1+(3-(r+1))=3 by omega] at this
theorem useQ_lt (k:Int) (nn:Nat→Nat) {r q:Nat} (hr:r<3) (hq:q<nn r):(useQ k nn r q).length<(useP k nn).length:=by
  have h1:=(useQ_all k nn hr (show q+1≤nn r by omega)).length_le
  rw [useQ_in,List.length_append] at h1
  simp at h1; omega
set_option maxRecDepth 100000 in
set_option maxHeartbeats 4000000 in
theorem use_loops (n:Nat) (hn:1≤n) (l tb tf M:Nat) (k:Int) (AA:Nat→Option Addr) (bb nn cc:Nat→Nat) (hA:∀ r,r<3→nn r=0∨AA r=some ⟨bb r,0,none⟩) (hnn:∀ r,r<3→nn r≤100000) (hM:(useP k nn).length≤M)
    (Q:World→Prop) (B0:Nat) (Kr:World→World→Prop) (hKQ:∀ A B,Kr A B→Q A→Q B) (hKn:∀ A B,Kr A B→∀ b C e s,B0≤b→A.heap[b]?=some (.cells C e s)→B.heap[b]?=some (.cells C e s))
    (J Jx:List (Nat × Nat)→World→Prop)
    (hY:∀ pre p W,p∈useP k nn→J pre W→pre.length<M→YieldAt Fence.wide (n-1) Try.prog l #[useA tb tf bb p] W fun e W'=>(e=.returned (.bool true)∧J (pre++[p]) W'∧Kr W W')∨(e=.returned (.bool false)∧Jx (pre++[p]) W'))
    (v:Nat→Value) (nb cap:Nat) (hnb:B0≤nb) (C:Array Value) (e:TypeId) (hrow:C.toList.take 3=[.slice (AA 0) (nn 0) (cc 0),.slice (AA 1) (nn 1) (cc 1),.slice (AA 2) (nn 2) (cc 2)])
    (W:World) (hW:W.heap[nb]?=some (.cells C e (0,0))) (h0:J (useQ k nn 0 0) W) :
    (match useTail with | .seq _ c=>c | _=>.skip).wpIn Fence.wide n Try.prog (bodyPost Try.prog Try.f149 fun (ev:Ending) W'=>(∃ v,ev=Ending.returned v)∧((∃ ys,ys=useP k nn∧J ys W')∨(∃ pre,pre <+: useP k nn∧Jx pre W'))) ⟨#[.func (.yield l) #[] #[],v 1,v 2,v 3,v 4,v 5,v 6,v 7,v 8,v 9,v 10,v 11,v 12,v 13,v 14,v 15,v 16,v 17,v 18,v 19,v 20,v 21,v 22,v 23,v 24,v 25,v 26,v 27,v 28,v 29,v 30,v 31,v 32,v 33,v 34,v 35,.slice (some ⟨nb,0,none⟩) 3 cap,.int .i64 3,.int .i64 0,v 39,v 40,v 41,v 42,v 43,v 44,v 45,v 46,v 47,v 48,v 49,v 50,v 51,v 52,v 53,v 54],[]⟩ W:=by
  have hC:∀ (wr:World) (r:Nat),r<3→wr.heap[nb]?=some (.cells C e (0,0))→wr.cell? ⟨nb,r,none⟩=some (.slice (AA r) (nn r) (cc r)):=fun wr r hr hw=>by
    rw [cell_of_row wr nb r C e (0,0) hw]
    have:C[r]?=(C.toList.take 3)[r]?:=by rw [List.getElem?_take,if_pos hr]; simp
    rw [this,hrow]
    match r,hr with
    | 0,_=>rfl
    | 1,_=>rfl
    | 2,_=>rfl
  show Code.wpIn _ _ _ (Code.block 1 _) _ _ _
  gi_wp2
  gi_loopw [38] (fun i wr=>∃ r:Nat,r≤3∧i=.int .i64 (r:Int)∧J (useQ k nn r 0) wr∧wr.heap[nb]?=some (.cells C e (0,0))) (fun i _=>3-(intOf i).toNat)
  case atStart=>exact ⟨0,Nat.zero_le _,rfl,h0,hW⟩
  case round =>
    obtain ⟨r,hr,rfl,hJs,hws⟩:=hrel
    by_cases hlt:r<3
    · have hc:=hC wr r hlt hws
      have hri:(r:Int)<3:=by omega
      have hw1:IntKind.i64.wrap ((r:Int)+1)=(r:Int)+1:=IntWalk.i64_in _ (by omega)
      have hAr:=hA r hlt
      have hmr:=hnn r hlt
      have hout:=useQ_out k nn r
      have hin:=useQ_in k nn r
      have hmem:∀ q,q<nn r→(r+1,q)∈useP k nn:=fun q hq=>by
        unfold useP useQ
        simp only [List.mem_append,List.mem_flatMap,List.mem_range,List.mem_map]
        exact .inl (.inr ⟨r,hlt,q,hq,rfl⟩)
      have hlen:∀ q,q<nn r→(useQ k nn r q).length<M:=fun q hq=>by
        refine Nat.lt_of_lt_of_le ?_ hM
        exact useQ_lt k nn hlt hq
      have hall:∀ q,q<nn r→useQ k nn r (q+1) <+: useP k nn:=fun q hq=>useQ_all k nn hlt hq
      have hYr:=fun q W h1=>hY (useQ k nn r q) (r+1,q) W h1
      generalize AA r=A at hc hAr
      generalize hnr:nn r=m at hc hAr hmr hmem hlen hout hall
      generalize cc r=c at hc
      clear hY hC hA hnn hrow h0 hW
      gi_wp2
      gi_loopw [44] (fun i wr=>∃ q:Nat,q≤m∧i=.int .i64 (q:Int)∧J (useQ k nn r q) wr∧wr.heap[nb]?=some (.cells C e (0,0))) (fun i _=>m-(intOf i).toNat)
      case atStart=>exact ⟨0,Nat.zero_le _,rfl,hJs,hws⟩
      case round =>
        obtain ⟨q,hq,rfl,hJq,hwq⟩:=hrel
        by_cases hlt2:q<m
        · obtain rfl:A=some ⟨bb r,0,none⟩:=hAr.resolve_left (by omega)
          obtain ⟨fn,tmps,assign,body,hy,hR⟩:=hYr q wr (hmem q hlt2) hJq (hlen q hlt2)
          rw [show useA tb tf bb (r+1,q)=.pointer (some ⟨bb r,q,none⟩) from rfl] at hy
          have hw2:IntKind.i64.wrap ((q:Int)+1)=(q:Int)+1:=IntWalk.i64_in _ (by omega)
          have hpre:=hall q hlt2
          clear hYr hmem hlen hall
          gi_wp2
          refine hR.mono ?_
          rintro ev W4 (⟨rfl,hJ4,hk4⟩ | ⟨rfl,hJx4⟩)
          · gi_wp2
            go_roundw
            case rel=>exact ⟨q+1,by omega,rfl,by rw [hin]; exact hJ4,hKn _ _ hk4 _ _ _ _ hnb hwq⟩
            case measure=>simp [intOf]; omega
          · gi_wp2
            refine bodyPost_ret (results_none rfl _ _ _) rfl ?_
            refine ⟨⟨_,rfl⟩,.inr ⟨_,?_,hJx4⟩⟩
            rw [← hin]; exact hpre
        · have hrl:q=m:=by omega
          subst hrl
          gi_wp2
          go_roundw
          case rel=>exact ⟨r+1,by omega,rfl,by rw [hout]; exact hJq,hwq⟩
          case measure=>simp [intOf]; omega
    · have hrl:r=3:=by omega
      subst hrl
      gi_wp2
      go_end0
      exact ⟨⟨_,rfl⟩,.inl ⟨_,rfl,hJs⟩⟩

set_option maxHeartbeats 1000000 in
theorem use_go (n:Nat) (hn:1≤n) (l cb tb tf M:Nat) (k:Int) (AA:Nat→Option Addr) (bb nn cc:Nat→Nat) (hA:∀ r,r<3→nn r=0∨AA r=some ⟨bb r,0,none⟩) (hnn:∀ r,r<3→nn r≤100000) (hM:(useP k nn).length≤M)
    (Q:World→Prop)
    (hQ:∀ W,Q W→W.cell? ⟨cb,0,none⟩=some (.pointer (some ⟨tb,tf,none⟩))∧W.cell? ⟨tb,tf,none⟩=some (.int .i64 k)∧∃ u:Nat→Value,(∀ j,j<8→W.cell? ⟨tb,tf+j,none⟩=some (u j)∧(u j).oneCell'=true)∧u 3=.slice (AA 0) (nn 0) (cc 0)∧u 5=.slice (AA 1) (nn 1) (cc 1)∧u 7=.slice (AA 2) (nn 2) (cc 2))
    (B0:Nat) (Kr:World→World→Prop) (hKQ:∀ A B,Kr A B→Q A→Q B) (hKn:∀ A B,Kr A B→∀ b C e s,B0≤b→A.heap[b]?=some (.cells C e s)→B.heap[b]?=some (.cells C e s))
    (J Jx:List (Nat × Nat)→World→Prop) (hJ:∀ s A B,A.grownBy B none→J s A→J s B)
    (hY:∀ pre p W,p∈useP k nn→J pre W→pre.length<M→YieldAt Fence.wide (n-1) Try.prog l #[useA tb tf bb p] W fun e W'=>(e=.returned (.bool true)∧J (pre++[p]) W'∧Kr W W')∨(e=.returned (.bool false)∧Jx (pre++[p]) W'))
    (a:Act) (hd:a.defers=[]) (hs:a.tmps.size=55) (h0:a.tmps[0]?=some (.func (.yield l) #[] #[])) (h1:a.tmps[1]?=some (.pointer (some ⟨cb,0,none⟩))) (W:World) (hB:B0≤W.heap.size) (hq:Q W) (hj:J (useQ k nn 0 0) W) (K:Act→World→Prop) (Q':Exit→Act→World→Prop)
    (hK:∀ a w,(match useTail with | .seq _ c=>c | _=>.skip).wpIn Fence.wide n Try.prog (bodyPost Try.prog Try.f149 fun (ev:Ending) W'=>(∃ v,ev=Ending.returned v)∧((∃ ys,ys=useP k nn∧J ys W')∨(∃ pre,pre <+: useP k nn∧Jx pre W'))) a w→K a w) :
    ∀ l,(match useTail with | .seq (.region _ ops _) _=>ops | _=>#[])=(l:List Oper).toArray→(Code.region 5 l.toArray true).wpIn Fence.wide n Try.prog (Exit.then K Q') a W:=by
  obtain ⟨hc,_,u,hu,e3,e5,e7⟩:=hQ W hq
  refine use_r5 n (.func (.yield l) #[] #[]) cb tb tf u rfl a W hd hs h0 h1 hc hu _ (fun tm W' nb cap hs e0 e36 e37 e38 hnb hgr ⟨C,e,hrow,hC⟩=>hK _ _ ?_)
  obtain ⟨v,ev,hv⟩:=arr55 tm hs
  have k0:v 0=.func (.yield l) #[] #[]:=by have:=hv 0 (by decide); rw [e0] at this; injection this with this; exact this.symm
  have k36:v 36=.slice (some ⟨nb,0,none⟩) 3 cap:=by have:=hv 36 (by decide); rw [e36] at this; injection this with this; exact this.symm
  have k37:v 37=.int .i64 3:=by have:=hv 37 (by decide); rw [e37] at this; injection this with this; exact this.symm
  have k38:v 38=.int .i64 0:=by have:=hv 38 (by decide); rw [e38] at this; injection this with this; exact this.symm
  rw [ev,k0,k36,k37,k38]
  exact use_loops n hn l tb tf M k AA bb nn cc hA hnn hM Q B0 Kr hKQ hKn J Jx hY v nb cap (Nat.le_trans hB hnb) C e (by rw [hC,e3,e5,e7]) W' hrow (hJ _ _ _ hgr hj)

set_option maxRecDepth 100000 in
set_option maxHeartbeats 4000000 in
theorem use_in (n:Nat) (hn:1≤n) (l cb tb tf M:Nat) (k:Int) (AA:Nat→Option Addr) (bb nn cc:Nat→Nat) (hA:∀ r,r<3→nn r=0∨AA r=some ⟨bb r,0,none⟩) (hnn:∀ r,r<3→nn r≤100000) (hM:(useP k nn).length≤M)
    (Q:World→Prop)
    (hQ:∀ W,Q W→W.cell? ⟨cb,0,none⟩=some (.pointer (some ⟨tb,tf,none⟩))∧W.cell? ⟨tb,tf,none⟩=some (.int .i64 k)∧∃ u:Nat→Value,(∀ j,j<8→W.cell? ⟨tb,tf+j,none⟩=some (u j)∧(u j).oneCell'=true)∧u 3=.slice (AA 0) (nn 0) (cc 0)∧u 5=.slice (AA 1) (nn 1) (cc 1)∧u 7=.slice (AA 2) (nn 2) (cc 2))
    (B0:Nat) (Kr:World→World→Prop) (hKQ:∀ A B,Kr A B→Q A→Q B) (hKz:∀ A B,Kr A B→A.heap.size≤B.heap.size) (hKn:∀ A B,Kr A B→∀ b C e s,B0≤b→A.heap[b]?=some (.cells C e s)→B.heap[b]?=some (.cells C e s))
    (J Jx:List (Nat × Nat)→World→Prop) (hJ:∀ s A B,A.grownBy B none→J s A→J s B)
    (hY:∀ pre p W,p∈useP k nn→J pre W→pre.length<M→YieldAt Fence.wide (n-1) Try.prog l #[useA tb tf bb p] W fun e W'=>(e=.returned (.bool true)∧J (pre++[p]) W'∧Kr W W')∨(e=.returned (.bool false)∧Jx (pre++[p]) W'))
    (W:World) (hB:B0≤W.heap.size) (hq:Q W) (h0:J [] W) :
    CallsIn Fence.wide n Try.prog 149 #[.func (.yield l) #[] #[],.pointer (some ⟨cb,0,none⟩)] W fun (e:Ending) W'=>(∃ v,e=.returned v)∧((∃ ys,ys=useP k nn∧J ys W')∨(∃ pre,pre <+: useP k nn∧Jx pre W')):=by
  obtain ⟨hc,hk,_⟩:=hQ W hq
  refine callsIn_of_wp Try.func149 rfl trivial ?_ rfl
  simp only [Try.ntmps149,List.size_toArray,List.length_cons,List.length_nil,Nat.reduceAdd,Nat.reduceSub,Array.replicate_succ,Array.replicate_zero,List.push_toArray,List.append_toArray,List.nil_append,List.cons_append]
  have hk0:W.cell? ⟨tb,tf+0,none⟩=some (.int .i64 k):=hk
  by_cases hh:hasA k=true
  · have hU:(0,0)∈useP k nn:=by simp [useP,useQ,hh]
    have hpr:[(0,0)] <+: useP k nn:=by unfold useP useQ; rw [if_pos hh,List.append_assoc]; exact List.prefix_append _ _
    have hj0:∀ W,J [(0,0)] W→J (useQ k nn 0 0) W:=fun W h=>by simpa [useQ,hh] using h
    obtain ⟨fn,tmps,assign,body,hy,hR⟩:=hY [] (0,0) W hU h0 (by have:=List.length_pos_of_mem hU; simp; omega)
    rw [show useA tb tf bb (0,0)=.pointer (some ⟨tb,tf+1,none⟩) from rfl] at hy
    have hgo:=fun a hd hs h0 h1 W=>use_go n hn l cb tb tf M k AA bb nn cc hA hnn hM Q hQ B0 Kr hKQ hKn J Jx hJ hY a hd hs h0 h1 W
    clear hY hQ hM hA hnn hU
    have h3:k=2∨k=4∨k=5:=by
      unfold hasA at hh
      simp only [Bool.or_eq_true,beq_iff_eq] at hh
      omega
    rcases h3 with rfl | rfl | rfl
    · gi_wp2
      refine hR.mono ?_
      rintro ev W4 (⟨rfl,hJ4,hk4⟩ | ⟨rfl,hJx4⟩)
      · gi_wp2
        rename_i K hK
        exact hgo _ rfl rfl rfl rfl W4 (Nat.le_trans hB (hKz _ _ hk4)) (hKQ _ _ hk4 hq) (hj0 _ hJ4) K _ hK _ rfl
      · gi_wp2
        refine bodyPost_ret (results_none rfl _ _ _) rfl ?_
        exact ⟨⟨_,rfl⟩,.inr ⟨_,hpr,hJx4⟩⟩
    · gi_wp2
      refine hR.mono ?_
      rintro ev W4 (⟨rfl,hJ4,hk4⟩ | ⟨rfl,hJx4⟩)
      · gi_wp2
        rename_i K hK
        exact hgo _ rfl rfl rfl rfl W4 (Nat.le_trans hB (hKz _ _ hk4)) (hKQ _ _ hk4 hq) (hj0 _ hJ4) K _ hK _ rfl
      · gi_wp2
        refine bodyPost_ret (results_none rfl _ _ _) rfl ?_
        exact ⟨⟨_,rfl⟩,.inr ⟨_,hpr,hJx4⟩⟩
    · gi_wp2
      refine hR.mono ?_
      rintro ev W4 (⟨rfl,hJ4,hk4⟩ | ⟨rfl,hJx4⟩)
      · gi_wp2
        rename_i K hK
        exact hgo _ rfl rfl rfl rfl W4 (Nat.le_trans hB (hKz _ _ hk4)) (hKQ _ _ hk4 hq) (hj0 _ hJ4) K _ hK _ rfl
      · gi_wp2
        refine bodyPost_ret (results_none rfl _ _ _) rfl ?_
        exact ⟨⟨_,rfl⟩,.inr ⟨_,hpr,hJx4⟩⟩
  · have hj0:J (useQ k nn 0 0) W:=by simpa [useQ,hh] using h0
    have hgo:=fun a hd hs h0 h1 W=>use_go n hn l cb tb tf M k AA bb nn cc hA hnn hM Q hQ B0 Kr hKQ hKn J Jx hJ hY a hd hs h0 h1 W
    clear hY hQ hM hA hnn
    have n2:(k==2)=false:=by cases q:k==2 with | false=>rfl | true=>exact absurd (by unfold hasA; rw [q]; rfl) hh
    have n4:(k==4)=false:=by cases q:k==4 with | false=>rfl | true=>exact absurd (by unfold hasA; rw [q]; simp) hh
    have n5:(k==5)=false:=by cases q:k==5 with | false=>rfl | true=>exact absurd (by unfold hasA; rw [q]; simp) hh
    have m2:¬ k=2:=by simpa using n2
    have m4:¬ k=4:=by simpa using n4
    have m5:¬ k=5:=by simpa using n5
    clear hh
    gi_wp2
    rename_i K hK
    exact hgo _ rfl rfl rfl rfl W hB hq hj0 K _ hK _ rfl
end Go.Proofs.Ytlkcidmmpeebeaa
