/- Proved: a range over merge.uses of a terminator in a row of blocks,each round walked on plain data. -/
import Derived.Test.YtlkcidmmpeebeaaUse
import Derived.Test.YtlkcidmmpeebeaaPMgF
import Derived.Test.YtlkcidmmpeebeaaValR
set_option linter.unusedVariables false
set_option linter.unusedSimpArgs false
namespace Go.Proofs.Ytlkcidmmpeebeaa
open Go.RowKit Go.PX
/-- the places of a terminator's values -/
abbrev UseT (k:Int) (nn:Nat→Nat):Type:={ p:Nat × Nat // p∈useP k nn }
theorem use_stops (n:Nat) (hn:1≤n) (cb tb tf M:Nat) (k:Int) (AA:Nat→Option Addr) (bb nn cc:Nat→Nat) (hA:∀ r,r<3→nn r=0∨AA r=some ⟨bb r,0,none⟩) (hnn:∀ r,r<3→nn r≤100000) (hM:(useP k nn).length≤M)
    (Q:World→Prop)
    (hQ:∀ W,Q W→W.cell? ⟨cb,0,none⟩=some (.pointer (some ⟨tb,tf,none⟩))∧W.cell? ⟨tb,tf,none⟩=some (.int .i64 k)∧∃ u:Nat→Value,(∀ j,j<8→W.cell? ⟨tb,tf+j,none⟩=some (u j)∧(u j).oneCell'=true)∧u 3=.slice (AA 0) (nn 0) (cc 0)∧u 5=.slice (AA 1) (nn 1) (cc 1)∧u 7=.slice (AA 2) (nn 2) (cc 2))
    (Kr:World→World→Prop) (hKQ:∀ A B,Kr A B→Q A→Q B) (hKz:∀ A B,Kr A B→A.heap.size≤B.heap.size) (w0:World) (hKn:∀ A B,Kr A B→∀ b C e s,w0.heap.size≤b→A.heap[b]?=some (.cells C e s)→B.heap[b]?=some (.cells C e s)) (h0:∀ W,Below w0.heap.size w0 W→Q W) :
    SeqStopsK (PX.FW none) n Try.prog 149 #[.pointer (some ⟨cb,0,none⟩)] (fun p:UseT k nn=>#[useA tb tf bb p.1]) Kr (fun xs=>xs.map (·.1)=useP k nn) (fun pre=>pre.map (·.1) <+: useP k nn) M w0:=by
  intro l J Jx W hW hJ hJx hY hJ0
  refine (use_in n hn l cb tb tf M k AA bb nn cc hA hnn hM Q hQ w0.heap.size Kr hKQ hKz hKn (fun l W=>∃ l':List (UseT k nn),l'.map (·.1)=l∧J l' W) (fun l W=>∃ l':List (UseT k nn),l'.map (·.1)=l∧Jx l' W) (fun s A B hg ⟨l',e,q⟩=>⟨l',e,hJ _ A B none q hg (fun r q=>by cases q)⟩) ?_ W hW.size (h0 W hW) ⟨[],rfl,hJ0⟩).mono ?_
  · rintro pre p W1 hp ⟨l',rfl,hj⟩ hl
    obtain ⟨fn,tmps,assign,body,hy,hR⟩:=hY l' ⟨p,hp⟩ W1 hj (by simpa using hl)
    refine ⟨fn,tmps,assign,body,hy,hR.mono ?_⟩
    rintro e W' (⟨rfl,h1,h2⟩ | ⟨rfl,h1⟩)
    · exact .inl ⟨rfl,⟨_,by simp,h1⟩,h2⟩
    · exact .inr ⟨rfl,⟨_,by simp,h1⟩⟩
  · rintro e W' ⟨hv,⟨ys,rfl,l',hl,hj⟩ | ⟨pre,hp,l',rfl,hj⟩⟩
    · exact ⟨hv,.inl ⟨l',hl,hj⟩⟩
    · exact ⟨hv,.inr ⟨l',hp,hj⟩⟩
def valV (y:VB):List Value:=[.int .i64 y.params,y.ops,.int .i64 y.kind,.int .i64 y.a,.int .i64 y.n,y.args,.int .i64 y.b0,y.a0,.int .i64 y.b1,y.a1]
theorem row_cells {σ:Nm} {Z:Nat→Prop} {W:World} {H:Heap} (hH:HR σ Z W H) {iB:Nat} {pu:Bool} {rows:List (List PV)} (hB:hlook H iB=some (.row 62 10 pu rows)) {b c:Nat} (hs:σ iB=some (b,c)) {k:Nat} {y:VB} (hk:rows[k]?=some (encV y)):(∀ j u,(valV y)[j]?=some u→W.cell? ⟨b,k*10+j,none⟩=some u)∧∀ u∈valV y,u.oneCell'=true:=by
  have hb:behind H (.rptr iB 10 k 0)=some (encV y):=by
    simp only [behind,hB]
    rw [show Nat.beq 10 10=true from rfl,hk]; rfl
  obtain ⟨b',off,l,e,h1,h2,h3⟩:=behind_spec hH (VR.rptr (Z:=Z) (w:=W) iB 10 k 0 b c hs) hb
  simp only [Value.pointer.injEq,Option.some.injEq,Addr.mk.injEq,and_true] at e
  obtain ⟨rfl,rfl⟩:=e
  have e:l=valV y:=PX.toCells_spec h1 rfl
  subst e
  exact ⟨fun j u hj=>by have:=h3 j u hj; rwa [Nat.add_zero] at this,h1.oneCell h2⟩
/-- where a place lies,by the names -/
def useV (iB kk i1 i2 i3:Nat) (p:Nat × Nat):PV:=match p.1 with
  | 0=>.rptr iB 10 kk 3
  | 1=>.rptr i1 1 p.2 0
  | 2=>.rptr i2 1 p.2 0
  | _=>.rptr i3 1 p.2 0
theorem own_at {σ:Nm} {Z:Nat→Prop} {W:World} {v:Value} {i n:Nat} (h:VR σ Z W v (.own i 1 n)):∃ A b c,v=.slice A n c∧(n=0∨A=some ⟨b,0,none⟩)∧(n≠0→σ i=some (b,c)):=by
  cases h with
  | own _ _ _ b c hs=>exact ⟨_,b,c,rfl,.inr rfl,fun _=>hs⟩
  | own0=>exact ⟨none,0,0,rfl,.inl rfl,fun q=>absurd rfl q⟩
def n3 (a b c:Nat):Nat→Nat
  | 0=>a
  | 1=>b
  | _=>c
theorem useP_mem {k:Int} {nn:Nat→Nat} {p:Nat × Nat} (h:p∈useP k nn):p=(0,0)∨∃ r i,r<3∧i<nn r∧p=(r+1,i):=by
  unfold useP useQ at h
  simp only [List.mem_append,List.mem_flatMap,List.mem_range,List.mem_map] at h
  rcases h with (h | ⟨r,hr,i,hi,rfl⟩) | ⟨i,hi,_⟩
  · split at h
    · exact .inl (by simpa using h)
    · simp at h
  · exact .inr ⟨r,i,hr,hi,rfl⟩
  · omega

set_option maxHeartbeats 1000000 in
theorem range_use {E:PX.Env} {N:Nat} {R0 R:List PX.Ent} {H0:PX.Heap} {nx:Nat} {a:Act} {w:World} {n:Nat} {ds:List Deferred} (hS:PX.Sat E N R0 H0 nx a w) (htop:E.top=100000) {t p d:Tmp} {assign body:Code} {Q:Exit→Act→World→Prop} (h1:2≤n)
    (ib iB kk et i1 i2 i3 g1 g2 g3 n1 n2 n3_:Nat) {y:VB} (hib:PX.hlook H0 ib=some (.box et [.rptr iB 10 kk 2])) (ht:PX.opd R0 [] (.tmp t)=some (.fn 149 [] [.ptr ib 0])) (ts hs:List Nat) (hk:PX.keepR R0 ts=some R)
    (hg1:PX.hlook H0 g1=some (.ty y.args (.own i1 1 n1))) (hg2:PX.hlook H0 g2=some (.ty y.a0 (.own i2 1 n2))) (hg3:PX.hlook H0 g3=some (.ty y.a1 (.own i3 1 n3_))) (hn1:n1≤100000) (hn2:n2≤100000) (hn3:n3_≤100000)
    (Hh:List (UseT y.kind (n3 n1 n2 n3_))→PX.Heap) (h00:Hh []=PX.restr H0 hs) (hnb:PX.hlook (PX.restr H0 hs) ib=none) (hrow:∀ pre,∃ pu rows y',PX.hlook (Hh pre) iB=some (.row 62 10 pu rows)∧rows[kk]?=some (encV y')∧y'.kind=y.kind∧y'.args=y.args∧y'.a0=y.a0∧y'.a1=y.a1)
    (hmh:∀ pre id o,PX.hlook (Hh pre) id=some o→PX.isMp o=true→∃ o0,PX.hlook (PX.restr H0 hs) id=some o0∧PX.isMp o0=true) (hkey:∀ pre id o,PX.hlook (Hh pre) id=some o→∃ o0,PX.hlook (PX.restr H0 hs) id=some o0)
    (hd:d<N) (hpd:R.all (fun e=>!Nat.beq e.t p&&!Nat.beq e.t d)=true)
    (hasg:∀ (l:Nat) (v:Value) (W:World) (K:Act→World→Prop),K ⟨(a.tmps.setIfInBounds p v).setIfInBounds d v,[]⟩ W→assign.wpIn (PX.FW (some l)) (n-1-1) Try.prog (Exit.then K (fun _ _ _=>False)) { tmps:=a.tmps.setIfInBounds p v,defers:=[] } W)
    (hbody:∀ (l:Nat) (pre:List (UseT y.kind (n3 n1 n2 n3_))) (x:UseT y.kind (n3 n1 n2 n3_)) (E3:PX.Env) (W:World) (a3:Act),PX.EnvOk E3 (Hh pre) (PX.allU (Hh pre)) nx 100000→PX.Sat E3 N (⟨d,[],useV iB kk i1 i2 i3 x.1⟩::R) (Hh pre) nx a3 W→body.wpIn (PX.FW (some l)) (n-1-1) Try.prog (PX.rngPost E3 N nx (Hh (pre++[x])) (Hh (pre++[x])) True False) (PX.Act.with_ a3 []) W)
    (hdone:∀ (D:Nat) (xs:List (UseT y.kind (n3 n1 n2 n3_))) (W:World) (E3:PX.Env),w.heap.size≤D→xs.map (·.1)=useP y.kind (n3 n1 n2 n3_)→PX.Nested E E3 W→PX.EnvOk E3 (Hh xs) (PX.allU (Hh xs)) nx 100000→PX.Sat E3 N R (Hh xs) nx a W→W.heap[D]?=some (.deferred (some []))→(∀ (D:Nat) (x:Option (List Deferred)),w.heap[D]?=some (.deferred x)→W.heap[D]?=some (.deferred x))→Q .normal (PX.Act.with_ a ({ target:=.collected D,args:=#[] }::ds)) W) :
    (Code.rangeFunc (.tmp t) #[p] assign body).wpIn (PX.FW none) n Try.prog Q (PX.Act.with_ a ds) w:=by
  obtain ⟨σ,Z,hr0⟩:=hS
  have hv:=hr0.rs.opd (p:=[]) rfl ht
  generalize hav:a.eval (.tmp t)=vf at hv
  cases hv with
  | fn _ l1 l2 x1 x2 hl1 hl2 g1' g2' =>
    obtain rfl:l1=[]:=List.length_eq_zero_iff.1 (by simpa using hl1)
    obtain ⟨u,l',rfl,g3',g4⟩:=PX.VRs.inv ⟨hl2,g2'⟩
    obtain rfl:=g4.inv0
    cases g3' with
    | ptr _ _ bx cx sx =>
      obtain ⟨b0,c,C,s2,hcell,_,v2⟩:=hr0.hr.at_ ib _ hib
      rw [sx] at s2; injection s2 with s2; injection s2 with e1 e2; subst e1 e2
      obtain ⟨s0,C1,rfl,v0,v3⟩:=v2.inv
      cases v0 with
      | rptr _ _ _ _ bo co so =>
        obtain ⟨A1,b1,c1,ea1,ha1,hs1⟩:=own_at (hr0.hr.at_ g1 _ hg1).2.2
        obtain ⟨A2,b2,c2,ea2,ha2,hs2⟩:=own_at (hr0.hr.at_ g2 _ hg2).2.2
        obtain ⟨A3,b3,c3,ea3,ha3,hs3⟩:=own_at (hr0.hr.at_ g3 _ hg3).2.2
        have hr:PX.Rel E N [] R (PX.restr H0 hs) nx σ Z a w:=(hr0.rs' (hr0.rs.keep hk)).restr hs
        have hbx:¬ (E.nest (PX.restr H0 hs) nx σ Z w).Wr bx:=fun q=>by
          obtain ⟨i,o',c',q1,q2⟩:=PX.nest_wr q
          have:=hr0.hr.inj i ib _ _ bx c' cx (PX.hlook_restr q1).1 hib q2 sx
          subst this; rw [hnb] at q1; cases q1
        have hmo:∀ pre,PX.mapsOld (E.nest (PX.restr H0 hs) nx σ Z w) (Hh pre):=fun pre id o hl ho=>by
          obtain ⟨o0,h0,h1⟩:=hmh pre id o hl ho
          obtain ⟨b,c,q1,x,q2,_⟩:=PX.isMp_blk (hr.hr.at_ id _ h0) h1
          exact ⟨b,c,q1,(Array.getElem?_eq_some_iff.1 q2).1⟩
        obtain ⟨X,hX⟩:∃ X:World→Prop,X=fun W=>W.cell? ⟨bo,kk*10+2,none⟩=some (.int .i64 y.kind)∧∃ u:Nat→Value,(∀ j,j<8→W.cell? ⟨bo,kk*10+2+j,none⟩=some (u j)∧(u j).oneCell'=true)∧u 3=y.args∧u 5=y.a0∧u 7=y.a1:=⟨_,rfl⟩
        have hXof:∀ {σ':Nm} {Z':Nat→Prop} {W:World} {pre},PX.HR σ' Z' W (Hh pre)→σ' iB=some (bo,co)→X W:=fun {σ' Z' W pre} q hs'=>by
          obtain ⟨pu,rows,y',k1,k2,k3,k4,k5,k6⟩:=hrow pre
          obtain ⟨r1,r2⟩:=row_cells q k1 hs' k2
          rw [hX]
          refine ⟨by rw [← k3]; exact r1 2 _ rfl,fun j=>((valV y')[2+j]?).getD undef,fun j hj=>?_,k4,k5,k6⟩
          have hj:2+j<(valV y').length:=by show 2+j<10; omega
          show W.cell? ⟨bo,kk*10+2+j,none⟩=some (((valV y')[2+j]?).getD undef)∧(((valV y')[2+j]?).getD undef).oneCell'=true
          rw [List.getElem?_eq_getElem hj]
          refine ⟨?_,r2 _ (List.getElem_mem hj)⟩
          rw [Nat.add_assoc]
          exact r1 _ _ (List.getElem?_eq_getElem hj)
        have hX0:X w:=hXof (pre:=[]) (by rw [h00]; exact hr.hr) so
        have hcs:∀ A B:World,(∀ p v,A.cell? p=some v→B.cell? p=some v)→X A→X B:=fun A B hc q=>by
          rw [hX] at q ⊢
          exact ⟨hc _ _ q.1,q.2.choose,fun j hj=>⟨hc _ _ (q.2.choose_spec.1 j hj).1,(q.2.choose_spec.1 j hj).2⟩,q.2.choose_spec.2⟩
        refine PX.range_pxq hr (α:=UseT y.kind (n3 n1 n2 n3_)) (by omega) (gf:=149) (lb:=#[.pointer (some ⟨bx,0,none⟩)]) hav (enters_of Try.func149 (by kernel_rfl) rfl) (encs:=fun x=>#[useA bo (kk*10+2) (n3 b1 b2 b3) x.1]) (fun _=>rfl) (S:=fun xs=>xs.map (·.1)=useP y.kind (n3 n1 n2 n3_)) (Sp:=fun pre=>pre.map (·.1) <+: useP y.kind (n3 n1 n2 n3_)) (M:=(useP y.kind (n3 n1 n2 n3_)).length)
          X (fun W l o1 o2 _ h1 h2 q=>hcs _ _ (fun p v hv=>putObj_cell h1 h2 hv) q)
          (use_stops (n-1) (by omega) bx bo (kk*10+2) _ y.kind (fun | 0=>A1 | 1=>A2 | _=>A3) (n3 b1 b2 b3) (n3 n1 n2 n3_) (n3 c1 c2 c3) (fun r hr=>?_) (fun r hr=>?_) (Nat.le_refl _) (fun W=>PX.Chg (E.nest (PX.restr H0 hs) nx σ Z w).Wr w W∧X W)
            (fun W ⟨hq,k⟩=>by
              rw [hX] at k
              obtain ⟨k1,u,k2,k3,k4,k5⟩:=k
              exact ⟨hq.cell (by simp [World.cell?,hcell]) hbx,k1,u,k2,k3.trans ea1,k4.trans ea2,k5.trans ea3⟩) _ (fun A B q=>q.1) (fun A B q=>q.2.1) w (fun A B q=>q.2.2) (fun W hb=>⟨Chg.of_below hb |>.mono fun _ _ h=>h.elim,hcs _ _ (fun p v hv=>cell_below hb hv) hX0⟩))
          (fun _=>True) trivial Hh h00 hmo hkey (fun pre W σ' Z' _ q=>hXof q.hr (q.ext _ _ so)) (fun x=>⟨(a.tmps.setIfInBounds p (useA bo (kk*10+2) (n3 b1 b2 b3) x.1)).setIfInBounds d (useA bo (kk*10+2) (n3 b1 b2 b3) x.1),[]⟩) (fun l x W K hK=>by simpa using hasg l _ W K hK) (fun x=>⟨d,[],useV iB kk i1 i2 i3 x.1⟩::R)
          (fun pre x σ' Z' W q=>PX.rs_asg q.rs hd hpd ?_) (fun l pre x E3 W hp hpn _ ht3 hE3 hS3=>?_) (fun D xs W hD hs' hpn hS3 hd=>?_)
        · match r,hr with
          | 0,_=>exact ha1
          | 1,_=>exact ha2
          | 2,_=>exact ha3
        · match r,hr with
          | 0,_=>exact hn1
          | 1,_=>exact hn2
          | 2,_=>exact hn3
        · obtain ⟨p,hp⟩:=x
          have hp':=hp
          rcases useP_mem hp with rfl | ⟨r,i,hr3,hi,rfl⟩
          · exact .rptr iB 10 kk 3 bo co (q.ext _ _ so)
          · match r,hr3 with
            | 0,_ =>
              have hi:i<n1:=hi
              have:=VR.rptr (Z:=Z') (w:=W) i1 1 i 0 b1 c1 (q.ext _ _ (hs1 (by omega)))
              rw [Nat.mul_one] at this; exact this
            | 1,_ =>
              have hi:i<n2:=hi
              have:=VR.rptr (Z:=Z') (w:=W) i2 1 i 0 b2 c2 (q.ext _ _ (hs2 (by omega)))
              rw [Nat.mul_one] at this; exact this
            | 2,_ =>
              have hi:i<n3_:=hi
              have:=VR.rptr (Z:=Z') (w:=W) i3 1 i 0 b3 c3 (q.ext _ _ (hs3 (by omega)))
              rw [Nat.mul_one] at this; exact this
        · exact hbody l pre x E3 W _ (by rw [htop] at hE3; exact hE3) hS3
        · obtain ⟨σ3,Z3,h3⟩:=hS3
          obtain ⟨E3,k1,k2,k3⟩:=PX.Sat.nest ⟨σ3,Z3,hr.unnest h3⟩ htop
          exact hdone D xs W E3 hD hs' k1 k2 k3 hd fun D' x hx=>PX.nest_def hr h3 hx
end Go.Proofs.Ytlkcidmmpeebeaa
