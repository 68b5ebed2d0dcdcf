/- Proved: a range over merge.values of an operation in a variable,each round walked on plain data. -/
import Derived.Test.YtlkcidmmpeebeaaVal
import Derived.Test.YtlkcidmmpeebeaaPcP
import Derived.Test.YtlkcidmmpeebeaaDm
import Derived.Test.YtlkcidmmpeebeaaEdgR
set_option linter.unusedVariables false
set_option linter.unusedSimpArgs false
namespace Go.Proofs.Ytlkcidmmpeebeaa
open Go.RowKit Go.PX
/-- the places of an operation's values -/
abbrev ValT (k sk:Int):Type:={ p:Nat // p∈vOff k sk }
theorem val_stops (n:Nat) (hn:1≤n) (cb ob M:Nat) (k sk:Int) (hM:4≤M) (Q:World→Prop) (hQg:∀ A B,A.grownBy B none→Q A→Q B)
    (hQ:∀ W,Q W→W.cell? ⟨cb,0,none⟩=some (.pointer (some ⟨ob,0,none⟩))∧∃ o:OpD,o.kind=k∧o.sk=sk∧∀ j u,(opC o)[j]?=some u→W.cell? ⟨ob,j,none⟩=some u) (Kr:World→World→Prop) (hK:∀ A B,Kr A B→Q A→Q B) (w0:World) (h0:∀ W,Below w0.heap.size w0 W→Q W) :
    SeqStopsK (PX.FW none) n Try.prog 148 #[.pointer (some ⟨cb,0,none⟩)] (fun p:ValT k sk=>#[.pointer (some ⟨ob,p.1,none⟩)]) Kr (fun xs=>xs.map (·.1)=vOff k sk) (fun pre=>pre.map (·.1) <+: vOff k sk) M w0:=by
  intro l J Jx W hW hJ hJx hY hJ0
  refine (val_in n hn l cb ob M k sk hM Q hQg hQ (fun l W=>∃ l':List (ValT k sk),l'.map (·.1)=l∧J l' W) (fun l W=>∃ l':List (ValT k sk),l'.map (·.1)=l∧Jx l' W) (fun s A B hg ⟨l',e,q⟩=>⟨l',e,hJ _ A B none q hg (fun r q=>by cases q)⟩) ?_ W (h0 W hW) ⟨[],rfl,hJ0⟩).mono ?_
  · rintro pre p W1 hp ⟨l',rfl,hj⟩ hl
    obtain ⟨fn,tmps,assign,body,hy,hR⟩:=hY l' ⟨p,hp⟩ W1 hj (by simpa using hl)
    refine ⟨fn,tmps,assign,body,hy,hR.mono ?_⟩
    rintro e W' (⟨rfl,h1,h2⟩ | ⟨rfl,h1⟩)
    · exact .inl ⟨rfl,⟨_,by simp,h1⟩,hK _ _ h2⟩
    · exact .inr ⟨rfl,⟨_,by simp,h1⟩⟩
  · rintro e W' ⟨hv,⟨ys,rfl,l',hl,hj⟩ | ⟨pre,hp,l',rfl,hj⟩⟩
    · exact ⟨hv,.inl ⟨l',hl,hj⟩⟩
    · exact ⟨hv,.inr ⟨l',hp,hj⟩⟩
theorem putObj_cell {W:World} {l:Nat} {o o':Obj} (ho:W.heap[l]?=some o) (hc:o.isCells=false) {p:Addr} {v:Value} (h:W.cell? p=some v):(W.putObj l o').cell? p=some v:=by
  obtain ⟨C,e,s,hb⟩:=PX.cell_heap h
  rw [World.cell?_of_block (w:=W)]
  · exact h
  · rw [World.putObj_heap_other]
    rintro rfl
    rw [ho] at hb; injection hb with hb; subst hb; cases hc
theorem op_cells {σ:Nm} {Z:Nat→Prop} {W:World} {io:Nat} {o:OpD} {b c:Nat} (h:OR σ Z W io (.box 74 (encO o))) (hs:σ io=some (b,c)):∀ j u,(opC o)[j]?=some u→W.cell? ⟨b,j,none⟩=some u:=by
  obtain ⟨b',c',C,q1,q2,_,q4⟩:=h
  rw [hs] at q1; simp only [Option.some.injEq,Prod.mk.injEq] at q1; obtain ⟨rfl,rfl⟩:=q1
  have e:C=opC o:=PX.toCells_spec q4 rfl
  subst e
  intro j u hj
  rw [cell_of_row W b j _ 74 (0,0) q2]
  simpa using hj

set_option maxHeartbeats 1000000 in
theorem range_val {E:PX.Env} {N:Nat} {R0 R:List PX.Ent} {H0:PX.Heap} {nx:Nat} {a:Act} {w:World} {n:Nat} {ds:List Deferred} (hS:PX.Sat E N R0 H0 nx a w) (htop:E.top=100000) {t p d:Tmp} {assign body:Code} {Q:Exit→Act→World→Prop} (h1:2≤n)
    (ib io et:Nat) {o:OpD} (hib:PX.hlook H0 ib=some (.box et [.ptr io 0])) (ht:PX.opd R0 [] (.tmp t)=some (.fn 148 [] [.ptr ib 0])) (ts hs:List Nat) (hk:PX.keepR R0 ts=some R)
    (Hh:List (ValT o.kind o.sk)→PX.Heap) (h00:Hh []=PX.restr H0 hs) (hnb:PX.hlook (PX.restr H0 hs) ib=none) (hio:∀ pre,∃ o':OpD,o'.kind=o.kind∧o'.sk=o.sk∧PX.hlook (Hh pre) io=some (.box 74 (encO o')))
    (hmh:∀ pre id o,PX.hlook (Hh pre) id=some o→PX.isMp o=true→∃ o0,PX.hlook (PX.restr H0 hs) id=some o0∧PX.isMp o0=true) (hkey:∀ pre id o,PX.hlook (Hh pre) id=some o→∃ o0,PX.hlook (PX.restr H0 hs) id=some o0)
    (hd:d<N) (hpd:R.all (fun e=>!Nat.beq e.t p&&!Nat.beq e.t d)=true)
    (hasg:∀ (l:Nat) (v:Value) (W:World) (K:Act→World→Prop),K ⟨(a.tmps.setIfInBounds p v).setIfInBounds d v,[]⟩ W→assign.wpIn (PX.FW (some l)) (n-1-1) Try.prog (Exit.then K (fun _ _ _=>False)) { tmps:=a.tmps.setIfInBounds p v,defers:=[] } W)
    (hbody:∀ (l:Nat) (pre:List (ValT o.kind o.sk)) (x:ValT o.kind o.sk) (E3:PX.Env) (W:World) (a3:Act),PX.EnvOk E3 (Hh pre) (PX.allU (Hh pre)) nx 100000→PX.Sat E3 N (⟨d,[],.ptr io x.1⟩::R) (Hh pre) nx a3 W→body.wpIn (PX.FW (some l)) (n-1-1) Try.prog (PX.rngPost E3 N nx (Hh (pre++[x])) (Hh (pre++[x])) True False) (PX.Act.with_ a3 []) W)
    (hdone:∀ (D:Nat) (xs:List (ValT o.kind o.sk)) (W:World) (E3:PX.Env),w.heap.size≤D→xs.map (·.1)=vOff o.kind o.sk→PX.Nested E E3 W→PX.EnvOk E3 (Hh xs) (PX.allU (Hh xs)) nx 100000→PX.Sat E3 N R (Hh xs) nx a W→W.heap[D]?=some (.deferred (some []))→(∀ (D:Nat) (x:Option (List Deferred)),w.heap[D]?=some (.deferred x)→W.heap[D]?=some (.deferred x))→Q .normal (PX.Act.with_ a ({ target:=.collected D,args:=#[] }::ds)) W) :
    (Code.rangeFunc (.tmp t) #[p] assign body).wpIn (PX.FW none) n Try.prog Q (PX.Act.with_ a ds) w:=by
  obtain ⟨σ,Z,hr0⟩:=hS
  have hv:=hr0.rs.opd (p:=[]) rfl ht
  generalize hav:a.eval (.tmp t)=vf at hv
  cases hv with
  | fn _ l1 l2 x1 x2 hl1 hl2 g1 g2 =>
    obtain rfl:l1=[]:=List.length_eq_zero_iff.1 (by simpa using hl1)
    obtain ⟨u,l',rfl,g3,g4⟩:=PX.VRs.inv ⟨hl2,g2⟩
    obtain rfl:=g4.inv0
    cases g3 with
    | ptr _ _ bx cx sx =>
      obtain ⟨b0,c,C,s2,hcell,_,v2⟩:=hr0.hr.at_ ib _ hib
      rw [sx] at s2; injection s2 with s2; injection s2 with e1 e2; subst e1 e2
      obtain ⟨s0,C1,rfl,v0,v3⟩:=v2.inv
      cases v0 with
      | ptr _ _ bo co so =>
        have hr:PX.Rel E N [] R (PX.restr H0 hs) nx σ Z a w:=(hr0.rs' (hr0.rs.keep hk)).restr hs
        have hbx:¬ (E.nest (PX.restr H0 hs) nx σ Z w).Wr bx:=fun q=>by
          obtain ⟨i,o',c',q1,q2⟩:=PX.nest_wr q
          have:=hr0.hr.inj i ib _ _ bx c' cx (PX.hlook_restr q1).1 hib q2 sx
          subst this; rw [hnb] at q1; cases q1
        have hmo:∀ pre,PX.mapsOld (E.nest (PX.restr H0 hs) nx σ Z w) (Hh pre):=fun pre id o hl ho=>by
          obtain ⟨o0,h0,h1⟩:=hmh pre id o hl ho
          obtain ⟨b,c,q1,x,q2,_⟩:=PX.isMp_blk (hr.hr.at_ id _ h0) h1
          exact ⟨b,c,q1,(Array.getElem?_eq_some_iff.1 q2).1⟩
        have hX0:∃ o':OpD,o'.kind=o.kind∧o'.sk=o.sk∧∀ j u,(opC o')[j]?=some u→w.cell? ⟨bo,j,none⟩=some u:=by
          obtain ⟨o',k1,k2,k3⟩:=hio []
          rw [h00] at k3
          exact ⟨o',k1,k2,op_cells (hr.hr.at_ io _ k3) so⟩
        refine PX.range_pxq hr (α:=ValT o.kind o.sk) (by omega) (gf:=148) (lb:=#[.pointer (some ⟨bx,0,none⟩)]) hav (enters_of Try.func148 (by kernel_rfl) rfl) (encs:=fun x=>#[.pointer (some ⟨bo,x.1,none⟩)]) (fun _=>rfl) (S:=fun xs=>xs.map (·.1)=vOff o.kind o.sk) (Sp:=fun pre=>pre.map (·.1) <+: vOff o.kind o.sk) (M:=4)
          (fun W=>∃ o':OpD,o'.kind=o.kind∧o'.sk=o.sk∧∀ j u,(opC o')[j]?=some u→W.cell? ⟨bo,j,none⟩=some u)
          (fun W l o1 o2 _ h1 h2 ⟨o',k1,k2,k3⟩=>⟨o',k1,k2,fun j u hj=>putObj_cell h1 h2 (k3 j u hj)⟩)
          (val_stops (n-1) (by omega) bx bo 4 o.kind o.sk (Nat.le_refl _) (fun W=>PX.Chg (E.nest (PX.restr H0 hs) nx σ Z w).Wr w W∧∃ o':OpD,o'.kind=o.kind∧o'.sk=o.sk∧∀ j u,(opC o')[j]?=some u→W.cell? ⟨bo,j,none⟩=some u)
            (fun A B hg ⟨q,o',k1,k2,k3⟩=>⟨⟨hg.os.trans q.os,hg.tape.trans q.tape,hg.output.trans q.output,Nat.le_trans q.size hg.size,fun b hb hn=>(hg.block b (Nat.lt_of_lt_of_le hb q.size) (by simp)).trans (q.block b hb hn)⟩,o',k1,k2,fun j u hj=>hg.cell (k3 j u hj) (by simp)⟩)
            (fun W ⟨hq,k⟩=>⟨hq.cell (by simp [World.cell?,hcell]) hbx,k⟩) _ (fun A B q=>q.1) w (fun W hb=>⟨Chg.of_below hb |>.mono fun _ _ h=>h.elim,by
              obtain ⟨o',k1,k2,k3⟩:=hX0
              exact ⟨o',k1,k2,fun j u hj=>cell_below hb (k3 j u hj)⟩⟩))
          (fun _=>True) trivial Hh h00 hmo hkey (fun pre W σ' Z' _ q=>?_) (fun x=>⟨(a.tmps.setIfInBounds p (.pointer (some ⟨bo,x.1,none⟩))).setIfInBounds d (.pointer (some ⟨bo,x.1,none⟩)),[]⟩) (fun l x W K hK=>by simpa using hasg l _ W K hK) (fun x=>⟨d,[],.ptr io x.1⟩::R)
          (fun pre x σ' Z' W q=>PX.rs_asg q.rs hd hpd (.ptr io x.1 bo co (q.ext _ _ so))) (fun l pre x E3 W hp hpn _ ht3 hE3 hS3=>?_) (fun D xs W hD hs' hpn hS3 hd=>?_)
        · obtain ⟨o',k1,k2,k3⟩:=hio pre
          exact ⟨o',k1,k2,op_cells (q.hr.at_ io _ k3) (q.ext _ _ so)⟩
        · have e4:PX.Act.with_ (⟨(a.tmps.setIfInBounds p (.pointer (some ⟨bo,x.1,none⟩))).setIfInBounds d (.pointer (some ⟨bo,x.1,none⟩)),[]⟩:Act) []=⟨(a.tmps.setIfInBounds p (.pointer (some ⟨bo,x.1,none⟩))).setIfInBounds d (.pointer (some ⟨bo,x.1,none⟩)),[]⟩:=rfl
          rw [← e4]
          exact hbody l pre x E3 W _ (by rw [htop] at hE3; exact hE3) hS3
        · obtain ⟨σ3,Z3,h3⟩:=hS3
          obtain ⟨E3,k1,k2,k3⟩:=PX.Sat.nest ⟨σ3,Z3,hr.unnest h3⟩ htop
          exact hdone D xs W E3 hD hs' k1 k2 k3 hd fun D' x hx=>PX.nest_def hr h3 hx
end Go.Proofs.Ytlkcidmmpeebeaa
