/- Proved: the iterator of unroll.defined gives the values that operations define,in order,to every loop body that keeps the operations. -/
import Derived.Test.YtlkcidmmpeebeaaPcD
import Derived.Test.YtlkcidmmpeebeaaPUnH
import Derived.LoopIn
import Derived.WalkKit
import Derived.TacticsInMore
import Derived.Shelf.Abstract
import Derived.Shelf.RegionOpen
set_option linter.unusedVariables false
set_option linter.unusedSimpArgs false
namespace Go.Proofs.Ytlkcidmmpeebeaa
open Go.RowKit Go.Shelf
attribute [local go_sem] Oper.semAt_some

theorem def_calls (k:Int) (W:World):Calls Try.prog 161 #[.int .i64 k] W fun e W'=>e=.returned (.bool (R.defines k))∧W.grownBy W' none:=by
  refine (con_f161 k W (fun _=>none) (fun _=>False) [.int .i64 k] ⟨fun id o h=>by simp [PX.hlook] at h,fun id id' o o' b c c' h=>by simp [PX.hlook] at h,fun _ _ _ _ _ _ q=>q,fun _ q=>q.elim⟩ (.cons (.sc _ rfl) .nil) (fun _ _ _=>rfl)).mono ?_
  rintro e W' ⟨v,σ',Z',rfl,h1,h2⟩
  refine ⟨by cases h1; rfl,⟨h2.chg.os,h2.chg.tape,h2.chg.output,h2.chg.size,fun b hb _=>h2.chg.block b hb fun ⟨_,_,_,_,q,_⟩=>by cases q⟩⟩

set_option maxRecDepth 100000 in
set_option maxHeartbeats 2000000 in
theorem dfd_in (n:Nat) (hn:1≤n) (l bx cap M:Nat) (A:Option Addr) (ops:List OpD) (hlen:ops.length≤140737488351232) (hM:(dsts ops).length≤M) (Q:World→Prop) (hQg:∀ A B,A.grownBy B none→Q A→Q B)
    (hQ:∀ W,Q W→W.cell? ⟨bx,0,none⟩=some (.slice A ops.length cap)∧∀ k o,ops[k]?=some o→∃ b off,A=some ⟨b,off,none⟩∧∀ j u,(opC o)[j]?=some u→W.cell? ⟨b,off+k*11+j,none⟩=some u)
    (J Jx:List Int→World→Prop) (hJ:∀ s A B,A.grownBy B none→J s A→J s B)
    (hY:∀ pre x W,J pre W→pre.length<M→YieldAt Fence.wide (n-1) Try.prog l #[.int .i64 x] W fun e W'=>(e=.returned (.bool true)∧J (pre++[x]) W'∧(Q W→Q W'))∨(e=.returned (.bool false)∧Jx (pre++[x]) W'))
    (W:World) (hq:Q W) (h0:J [] W) :
    CallsIn Fence.wide n Try.prog 160 #[.func (.yield l) #[] #[],.pointer (some ⟨bx,0,none⟩)] W fun e W'=>(∃ v,e=.returned v)∧((∃ ys,ys=dsts ops∧J ys W')∨(∃ pre,pre <+: dsts ops∧Jx pre W')):=by
  have hc:=(hQ W hq).1
  refine callsIn_of_wp Try.func160 rfl trivial ?_ rfl
  simp only [Try.ntmps160,List.size_toArray,List.length_cons,List.length_nil,Nat.reduceAdd,Nat.reduceSub,Array.replicate_succ,Array.replicate_zero,List.push_toArray,List.append_toArray,List.nil_append,List.cons_append]
  gi_wp2
  gi_loopw [7] (fun i wr=>∃ r:Nat,r≤ops.length∧i=.int .i64 (r:Int)∧J (dsts (ops.take r)) wr∧Q wr)
    (fun i _=>ops.length-(intOf i).toNat)
  case atStart=>exact ⟨0,Nat.zero_le _,rfl,by simpa [dsts] using h0,hq⟩
  case round =>
    obtain ⟨r,hr,rfl,hJs,hqs⟩:=hrel
    by_cases hlt:r<ops.length
    · obtain ⟨hcx,hcs⟩:=hQ wr hqs
      obtain ⟨o,ho⟩:=get_of_lt hlt
      obtain ⟨b,off,rfl,hcell⟩:=hcs r o ho
      have q0:=hcell 0 _ rfl
      simp only [Nat.add_zero] at q0
      have q1:=hcell 1 _ rfl
      have q2:=hcell 2 _ rfl
      have q3:=hcell 3 _ rfl
      have q4:=hcell 4 _ rfl
      have q5:=hcell 5 _ rfl
      have q6:=hcell 6 _ rfl
      have q7:=hcell 7 _ rfl
      have q8:=hcell 8 _ rfl
      have q9:=hcell 9 _ rfl
      have q10:=hcell 10 _ rfl
      clear hcell hcs
      have hw1:IntKind.i64.wrap ((r:Int)+1)=(r:Int)+1:=IntWalk.i64_in _ (by omega)
      gi_wp2
      have hb1:Below wr.heap.size wr (wr.alloc (.cells #[.int .i64 o.kind,.int .i64 o.dst,.int .i64 o.a,.int .i64 o.b,.int .i64 o.n,.int .i64 o.ctx,.int .i64 o.var,.int .i64 o.piece,.int .i64 o.sk,.int .i64 o.sv,.int .i64 o.sa] 74)):=(Below.refl _ _).alloc (Nat.le_refl _) _
      have hn1:=World.alloc_heap_new wr (.cells #[.int .i64 o.kind,.int .i64 o.dst,.int .i64 o.a,.int .i64 o.b,.int .i64 o.n,.int .i64 o.ctx,.int .i64 o.var,.int .i64 o.piece,.int .i64 o.sk,.int .i64 o.sv,.int .i64 o.sa] 74)
      generalize wr.alloc (.cells #[.int .i64 o.kind,.int .i64 o.dst,.int .i64 o.a,.int .i64 o.b,.int .i64 o.n,.int .i64 o.ctx,.int .i64 o.var,.int .i64 o.piece,.int .i64 o.sk,.int .i64 o.sv,.int .i64 o.sa] 74)=W2 at hb1 hn1 ⊢
      refine ⟨trivial,(callsIn_wide.2 (def_calls o.kind W2)).mono ?_⟩
      rintro e W3 ⟨rfl,hg2⟩
      have hn3:=(hg2.block _ (Array.getElem?_eq_some_iff.1 hn1).1 (by simp)).trans hn1
      have hg1:=grown_below hb1 none
      have hg:wr.grownBy W3 none:=⟨hg2.os.trans hg1.os,hg2.tape.trans hg1.tape,hg2.output.trans hg1.output,Nat.le_trans hg1.size hg2.size,fun k hk _=>(hg2.block k (Nat.lt_of_lt_of_le hk hg1.size) (by simp)).trans (hg1.block k hk (by simp))⟩
      have hJ3:=hJ _ _ _ hg hJs
      have hQ3:=hQg _ _ hg hqs
      have c1:W3.cell? ⟨wr.heap.size,1,none⟩=some (.int .i64 o.dst):=by simp [World.cell?,hn3]
      have hst:=dsts_take ho
      clear hg hg1 hg2 hn3 hn1 hb1 hJs hqs q0 q1 q2 q3 q4 q5 q6 q7 q8 q9 q10 hcx hc hQ
      cases hd:R.defines o.kind with
      | false =>
        rw [hd,if_neg (by simp),List.append_nil] at hst
        gi_wp2
        refine ⟨fun _ h=>(nomatch h),?_⟩
        gi_wp2
        go_roundw
        case rel=>exact ⟨r+1,by omega,rfl,by rw [hst]; exact hJ3,hQ3⟩
        case measure=>simp [intOf]; omega
      | true =>
        rw [hd,if_pos rfl] at hst
        have hlen2:(dsts (ops.take r)).length<M:=by
          have e1:dsts ops=dsts (ops.take (r+1))++dsts (ops.drop (r+1)):=by unfold dsts; rw [← List.map_append,← List.filter_append,List.take_append_drop]
          have e2:=congrArg List.length e1
          rw [hst] at e2
          simp at e2; omega
        obtain ⟨fn,tmps,assign,body,hy,hR⟩:=hY _ o.dst W3 hJ3 hlen2
        gi_wp2
        refine hR.mono ?_
        rintro e W4 (⟨rfl,hJ4,hk4⟩ | ⟨rfl,hJx4⟩)
        · gi_wp2
          go_roundw
          case rel=>exact ⟨r+1,by omega,rfl,by rw [hst]; exact hJ4,hk4 hQ3⟩
          case measure=>simp [intOf]; omega
        · gi_wp2
          refine bodyPost_ret (results_none rfl _ _ _) rfl ?_
          exact ⟨⟨_,rfl⟩,.inr ⟨_,by rw [← hst]; exact ⟨dsts (ops.drop (r+1)),by unfold dsts; rw [← List.map_append,← List.filter_append,List.take_append_drop]⟩,hJx4⟩⟩
    · have hrl:r=ops.length:=by omega
      subst hrl
      gi_wp2
      go_end0
      exact ⟨⟨_,rfl⟩,.inl ⟨_,rfl,by rwa [List.take_of_length_le (Nat.le_refl _)] at hJs⟩⟩
theorem ir_opsP {Z:Nat→Prop} {W:World} {sv:Value} {ops:List OpD} (h:PX.IR Z W sv (.imm 11 (ops.map encO))):∃ A cap,sv=.slice A ops.length cap∧ops.length≤140737488351232∧∀ k o,ops[k]?=some o→∃ b off,A=some ⟨b,off,none⟩∧Z b∧∀ (j:Nat) u,(opC o)[j]?=some u→W.cell? ⟨b,off+k*11+j,none⟩=some u:=by
  obtain ⟨A,cap,rfl,h1,_,h3⟩:=PX.imm_of h
  refine ⟨A,cap,rfl,h1.2,fun k o ho=>?_⟩
  obtain ⟨b,off,l,q1,q2,q3,q4,q5⟩:=h3 k o ho
  refine ⟨b,off,q1,q2,fun j u hj=>?_⟩
  match l,q3,q4,q5 with
  | [u0,u1,u2,u3,u4,u5,u6,u7,u8,u9,u10],_,q4,q5 =>
    have e0:=ir_int (q5 0 u0 _ rfl rfl)
    have e1:=ir_int (q5 1 u1 _ rfl rfl)
    have e2:=ir_int (q5 2 u2 _ rfl rfl)
    have e3:=ir_int (q5 3 u3 _ rfl rfl)
    have e4:=ir_int (q5 4 u4 _ rfl rfl)
    have e5:=ir_int (q5 5 u5 _ rfl rfl)
    have e6:=ir_int (q5 6 u6 _ rfl rfl)
    have e7:=ir_int (q5 7 u7 _ rfl rfl)
    have e8:=ir_int (q5 8 u8 _ rfl rfl)
    have e9:=ir_int (q5 9 u9 _ rfl rfl)
    have e10:=ir_int (q5 10 u10 _ rfl rfl)
    subst e0 e1 e2 e3 e4 e5 e6 e7 e8 e9 e10
    exact q4 j u hj
theorem dfd_stops (n:Nat) (hn:1≤n) (bx cap M:Nat) (A:Option Addr) (ops:List OpD) (hlen:ops.length≤140737488351232) (hM:(dsts ops).length≤M) (Q:World→Prop) (hQg:∀ A B,A.grownBy B none→Q A→Q B)
    (hQ:∀ W,Q W→W.cell? ⟨bx,0,none⟩=some (.slice A ops.length cap)∧∀ k o,ops[k]?=some o→∃ b off,A=some ⟨b,off,none⟩∧∀ j u,(opC o)[j]?=some u→W.cell? ⟨b,off+k*11+j,none⟩=some u) (w0:World) (h0:∀ W,Below w0.heap.size w0 W→Q W) :
    SeqStopsK (PX.FW none) n Try.prog 160 #[.pointer (some ⟨bx,0,none⟩)] (fun x:Int=>#[.int .i64 x]) (fun W W'=>Q W→Q W') (fun xs=>xs=dsts ops) (fun pre=>pre <+: dsts ops) M w0 :=
  fun l J Jx W hW hJ hJx hY hJ0=>dfd_in n hn l bx cap M A ops hlen hM Q hQg hQ J Jx (fun s A B hg hs=>hJ s A B none hs hg (fun r e=>by cases e)) hY W (h0 W hW) hJ0

/-- a round's slots: those that the loop had ahead,and the element in slot p -/
theorem range_dfd {E:PX.Env} {N:Nat} {R0 R:List PX.Ent} {H0:PX.Heap} {nx:Nat} {a:Act} {w:World} {n:Nat} {ds:List Deferred} (hS:PX.Sat E N R0 H0 nx a w) (htop:E.top=100000) {t p:Tmp} {assign body:Code} {Q:Exit→Act→World→Prop} (h1:2≤n)
    (ib:Nat) {ops:List OpD} (hib:PX.hlook H0 ib=some (.box 55 [.imm 11 (ops.map encO)])) (ht:PX.opd R0 [] (.tmp t)=some (.fn 160 [] [.ptr ib 0])) (ts hs:List Nat) (hk:PX.keepR R0 ts=some R) (Pn Px:List Int→Prop) (hp0:Pn []) (Hh Hx:List Int→PX.Heap) (h00:Hh []=PX.restr H0 hs) (hnb:PX.hlook (PX.restr H0 hs) ib=none) (hlen:ops.length≤140737488351232) {M:Nat} (hM:(dsts ops).length≤M)
    (hmh:∀ pre id D,PX.hlook (Hh pre) id=some (.mp D)→∃ D0,PX.hlook (PX.restr H0 hs) id=some (.mp D0)) (hmx:∀ pre id D,PX.hlook (Hx pre) id=some (.mp D)→∃ D0,PX.hlook (PX.restr H0 hs) id=some (.mp D0))
    (asg:Int→Act) (hasg:∀ (l:Nat) (x:Int) (W:World) (K:Act→World→Prop),K (asg x) W→assign.wpIn (PX.FW (some l)) (n-1-1) Try.prog (Exit.then K (fun _ _ _=>False)) { tmps:=a.tmps.setIfInBounds p (.int .i64 x),defers:=[] } W)
    (R1:Int→List PX.Ent) (hR1:∀ x σ' Z' W,PX.RS σ' Z' W N [] R a→PX.RS σ' Z' W N [] (R1 x) (asg x))
    (hbody:∀ (l:Nat) (pre:List Int) (x:Int) (E3:PX.Env) (W:World),pre.length<M→Pn pre→PX.EnvOk E3 (Hh pre) (PX.allU (Hh pre)) nx 100000→PX.Sat E3 N (R1 x) (Hh pre) nx (asg x) W→body.wpIn (PX.FW (some l)) (n-1-1) Try.prog (PX.rngPost E3 N nx (Hh (pre++[x])) (Hx (pre++[x])) (Pn (pre++[x])) (Px (pre++[x]))) (PX.Act.with_ (asg x) []) W)
    (hdone:∀ (D:Nat) (W:World) (E3:PX.Env),w.heap.size≤D→Pn (dsts ops)→PX.Nested E E3 W→PX.EnvOk E3 (Hh (dsts ops)) (PX.allU (Hh (dsts ops))) nx 100000→PX.Sat E3 N R (Hh (dsts ops)) nx a W→W.heap[D]?=some (.deferred (some []))→(∀ (D:Nat) (x:Option (List Deferred)),w.heap[D]?=some (.deferred x)→W.heap[D]?=some (.deferred x))→Q .normal (PX.Act.with_ a ({ target:=.collected D,args:=#[] }::ds)) W)
    (hstop:∀ (D:Nat) (pre:List Int) (W:World),w.heap.size≤D→pre <+: dsts ops→Px pre→PX.Sat E N R (Hx pre) nx a W→W.heap[D]?=some (.deferred (some []))→(∀ (D:Nat) (x:Option (List Deferred)),w.heap[D]?=some (.deferred x)→W.heap[D]?=some (.deferred x))→Code.ret.wpIn (PX.FW none) n Try.prog Q (PX.Act.with_ a ({ target:=.collected D,args:=#[] }::ds)) W) :
    (Code.rangeFunc (.tmp t) #[p] assign body).wpIn (PX.FW none) n Try.prog Q (PX.Act.with_ a ds) w:=by
  obtain ⟨σ,Z,hr0⟩:=hS
  have hv:=hr0.rs.opd (p:=[]) rfl ht
  generalize hav:a.eval (.tmp t)=vf at hv
  cases hv with
  | fn _ l1 l2 x1 x2 hl1 hl2 g1 g2 =>
    obtain rfl:l1=[]:=List.length_eq_zero_iff.1 (by simpa using hl1)
    obtain ⟨u,l',rfl,g3,g4⟩:=PX.VRs.inv ⟨hl2,g2⟩
    obtain rfl:=g4.inv0
    cases g3 with
    | ptr _ _ bx cx sx =>
      obtain ⟨b,c,C,s2,hcell,_,v2⟩:=hr0.hr.at_ ib _ hib
      rw [sx] at s2; injection s2 with s2; injection s2 with e1 e2; subst e1 e2
      obtain ⟨sv,C',rfl,hsv,hn2⟩:=v2.inv
      obtain rfl:C'=[]:=List.length_eq_zero_iff.1 (by simpa using hn2.1)
      have hir:=hsv.ir rfl
      obtain ⟨A,cap,rfl,_,hrows⟩:=ir_opsP hir
      have hr:PX.Rel E N [] R (PX.restr H0 hs) nx σ Z a w:=(hr0.rs' (hr0.rs.keep hk)).restr hs
      have hbx:¬ (E.nest (PX.restr H0 hs) nx σ Z w).Wr bx:=fun q=>by
        obtain ⟨i,o',c',q1,q2⟩:=PX.nest_wr q
        have:=hr0.hr.inj i ib _ _ bx c' cx (PX.hlook_restr q1).1 hib q2 sx
        subst this; rw [hnb] at q1; cases q1
      have hmo:∀ (Hg:List Int→PX.Heap),(∀ pre id D,PX.hlook (Hg pre) id=some (.mp D)→∃ D0,PX.hlook (PX.restr H0 hs) id=some (.mp D0))→∀ pre,PX.mapsOld (E.nest (PX.restr H0 hs) nx σ Z w) (Hg pre):=fun Hg hg pre id D hl=>by
        obtain ⟨D0,h0⟩:=hg pre id D hl
        obtain ⟨_,b,c,es,cl,q1,q2,_⟩:=hr.hr.at_ id _ h0
        exact ⟨b,c,q1,(Array.getElem?_eq_some_iff.1 q2).1⟩
      refine PX.range_px hr (α:=Int) (by omega) (gf:=160) (lb:=#[.pointer (some ⟨bx,0,none⟩)]) hav (enters_of Try.func160 (by kernel_rfl) rfl) (encs:=fun x=>#[.int .i64 x]) (fun _=>rfl) (S:=fun xs=>xs=dsts ops) (Sp:=fun pre=>pre <+: dsts ops) (M:=M)
        (dfd_stops (n-1) (by omega) bx cap M A ops hlen hM _ (fun A B hg q=>⟨hg.os.trans q.os,hg.tape.trans q.tape,hg.output.trans q.output,Nat.le_trans q.size hg.size,fun b hb hn=>(hg.block b (Nat.lt_of_lt_of_le hb q.size) (by simp)).trans (q.block b hb hn)⟩) (fun W hq=>?_) w (fun W hb=>(PX.Chg.of_below hb).mono fun _ _ q=>q.elim))
        Pn Px hp0 Hh Hx h00 (hmo Hh hmh) (hmo Hx hmx) asg (fun l x W K hK=>by simpa using hasg l x W K hK) R1 hR1 (fun l pre x E3 W hp hpn _ ht3 hE3 hS3=>?_) (fun D xs W hD hs' hpn hS3 hd=>?_) (fun D pre W hD hs' hp hS3 hd=>?_)
      · exact ⟨by rw [hq.cell (v:=.slice A ops.length cap) (by simp [World.cell?,hcell]) hbx],fun k o ho=>by
          obtain ⟨b,off,q1,q2,q3⟩:=hrows k o ho
          exact ⟨b,off,q1,fun j u hj=>hq.cell (q3 j u hj) fun q=>by obtain ⟨i,o',c',q4,q5⟩:=PX.nest_wr q; exact hr.hr.off i o' b c' q4 q5 q2⟩⟩
      · have hd3:(asg x).defers=[]:=by obtain ⟨_,_,q⟩:=hS3; exact q.rs.defers
        have e4:PX.Act.with_ (asg x) []=asg x:=by
          generalize asg x=a3 at hd3
          cases a3; simp only at hd3; subst hd3; rfl
        rw [← e4]
        exact hbody l pre x E3 W hp hpn (by rw [htop] at hE3; exact hE3) hS3
      · subst hs'
        obtain ⟨σ3,Z3,h3⟩:=hS3
        obtain ⟨E3,k1,k2,k3⟩:=PX.Sat.nest ⟨σ3,Z3,hr.unnest h3⟩ htop
        exact hdone D W E3 hD hpn k1 k2 k3 hd fun D' x hx=>PX.nest_def hr h3 hx
      · obtain ⟨σ3,Z3,h3⟩:=hS3
        exact hstop D pre W hD hs' hp ⟨σ3,Z3,hr.unnest h3⟩ hd fun D' x hx=>PX.nest_def hr h3 hx
end Go.Proofs.Ytlkcidmmpeebeaa
