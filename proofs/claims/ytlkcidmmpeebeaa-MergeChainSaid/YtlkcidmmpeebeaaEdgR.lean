/- Proved: a range over merge.edges whose blocks nobody writes,each round walked on plain data. -/
import Derived.Test.YtlkcidmmpeebeaaEdg
import Derived.Test.YtlkcidmmpeebeaaPcP
set_option linter.unusedVariables false
set_option linter.unusedSimpArgs false
namespace Go.PX
open Go.RowKit Go.SX
section
variable {P:Program} {E:Env} {N:Nat} {κ κ':List (Nat × Bool)} {R R':List Ent} {H H':Heap} {nx nx':Nat} {σ σ':Nm} {Z Z':Nat→Prop} {a a':Act} {w w':World}
/-- range_px,where the element's value is known from the whole state -/
theorem range_pxr {α:Type} {n:Nat} {ds:List Deferred} (hr:Rel E N [] R H nx σ Z a w) {g:Operand} {ps:Array Tmp} {assign body:Code} {Q:Exit→Act→World→Prop} (h1:1≤n)
    {gf:Nat} {lb:Array Value} (hg:a.eval g=.func (.func gf) #[] lb) (eg:∀ args w,(callFunc gf args).run P w=.ok (.enter gf args) w)
    {encs:α→Array Value} (hps:∀ x,(encs x).size=ps.size) {S Sp:List α→Prop} {M:Nat}
    (hseq:SeqStopsK (FW none) (n-1) P gf lb encs (fun A B=>Chg (E.nest H nx σ Z w).Wr w A→Chg (E.nest H nx σ Z w).Wr w B) S Sp M w)
    (Pn Px:List α→Prop) (hp0:Pn []) (Hh Hx:List α→Heap) (h00:Hh []=H) (hmh:∀ pre,mapsOld (E.nest H nx σ Z w) (Hh pre)) (hmx:∀ pre,mapsOld (E.nest H nx σ Z w) (Hx pre))
    (asg:α→Act) (hasg:∀ (l:Nat) (x:α) (W:World) (K:Act→World→Prop),K (asg x) W→assign.wpIn (FW (some l)) (n-1-1) P (Exit.then K (fun _ _ _=>False)) { tmps:=(ps.zip (encs x)).foldl (fun t (p,v)=>t.setIfInBounds p v) a.tmps,defers:=[] } W)
    (R1:α→List Ent) (hR1:∀ pre x σ' Z' W,Rel (E.nest H nx σ Z w) N [] R (Hh pre) nx σ' Z' a W→RS σ' Z' W N [] (R1 x) (asg x))
    (hbody:∀ (l:Nat) (pre:List α) (x:α) (E3:Env) (W:World),pre.length<M→Pn pre→E3.w0=W→E3.top=E.top→EnvOk E3 (Hh pre) (allU (Hh pre)) nx E.top→Sat E3 N (R1 x) (Hh pre) nx (asg x) W→body.wpIn (FW (some l)) (n-1-1) P (rngPost E3 N nx (Hh (pre++[x])) (Hx (pre++[x])) (Pn (pre++[x])) (Px (pre++[x]))) (asg x) W)
    (hdone:∀ (D:Nat) (xs:List α) (W:World),w.heap.size≤D→S xs→Pn xs→Sat (E.nest H nx σ Z w) N R (Hh xs) nx a W→W.heap[D]?=some (.deferred (some []))→Q .normal (Act.with_ a ({ target:=.collected D,args:=#[] }::ds)) W)
    (hstop:∀ (D:Nat) (pre:List α) (W:World),w.heap.size≤D→Sp pre→Px pre→Sat (E.nest H nx σ Z w) N R (Hx pre) nx a W→W.heap[D]?=some (.deferred (some []))→Code.ret.wpIn (FW none) n P Q (Act.with_ a ({ target:=.collected D,args:=#[] }::ds)) W) :
    (Code.rangeFunc g ps assign body).wpIn (FW none) n P Q (Act.with_ a ds) w:=by
  have hn:=hr.nest
  refine wpIn_rangeFunc_ownH (F:=FW none) rfl h1 (gf:=gf) (lb:=lb) (by rw [with_eval]; exact hg) trivial eg hseq (fun h k q=>k (h q))
    (fun W l o o' hl ho hc _ q=>⟨q.os,q.tape,q.output,by simpa using q.size,fun b hb hnb=>by rw [World.putObj_heap_other (by omega)]; exact q.block b hb hnb⟩) (Below.refl _ _) hps
    (fun pre W=>Pn pre∧Sat (E.nest H nx σ Z w) N R (Hh pre) nx a W) (fun c pre W=>c=.ret∧Px pre∧Sat (E.nest H nx σ Z w) N R (Hx pre) nx a W)
    (fun s W W' row hs hg' hr'=>⟨hs.1,hs.2.turn hg' hr' (hmh s)⟩) (fun c s W W' row hs hg' hr'=>⟨hs.1,hs.2.1,hs.2.2.turn hg' hr' (hmx s)⟩)
    (by rw [h00]; exact ⟨hp0,σ,Z,hn⟩) (fun x a' _=>a'=asg x) (fun x a' _ W W' row h _ _=>h)
    (fun l pre x W K hI hK=>hasg l x W K (hK _ _ (KeepsFrom.refl _ _) (fun q=>q) hI rfl)) ?_ (fun D xs W hD hs hI hd=>hdone D xs W hD hs hI.1 hI.2 hd) (fun D c pre W hD hs hI hd=>by obtain ⟨rfl,hp,hI⟩:=hI; exact hstop D pre W hD hs hp hI hd)
  rintro l pre x a' W hl _ ⟨hpn,σ1,Z1,hr1⟩ rfl hlen
  have hr2:Rel (E.nest H nx σ Z w) N [] (R1 x) (Hh pre) nx σ1 Z1 (asg x) W:=⟨hR1 pre x _ _ _ hr1,hr1.hr,hr1.fr,hr1.lo,hr1.ext,hr1.dom,hr1.own,hr1.chg,hr1.zold,hr1.z0⟩
  refine wpIn_mono (hbody l pre x ((E.nest H nx σ Z w).nest (Hh pre) nx σ1 Z1 W) W hlen hpn rfl rfl ⟨rfl,rfl,rfl,fun id q1 q2=>(hr1.fr id q1 q2).2,fun id q1 q2=>(hr1.fr id q1 q2).1⟩ ⟨σ1,Z1,hr2.nest⟩) ?_
  intro e a'' W' hq
  cases e with
  | normal =>
    obtain ⟨hp,σ3,Z3,h3⟩:=hq
    have h4:=hr2.unnest h3
    exact ⟨nest_keeps hr2 h3 (hmh pre) (Nat.le_refl _),fun _=>h4.chg,hp,σ3,Z3,hr.back h4⟩
  | ret =>
    obtain ⟨hp,σ3,Z3,h3⟩:=hq
    have h4:=hr2.unnest h3
    exact ⟨nest_keeps hr2 h3 (hmh pre) (Nat.le_refl _),rfl,hp,σ3,Z3,hr.back h4⟩
  | exit _=>exact hq.elim
  | goto _=>exact hq.elim
  | panic _=>exact hq.elim
  | outgrown=>exact hq.elim
end
end Go.PX
namespace Go.Proofs.Ytlkcidmmpeebeaa
open Go.RowKit Go.PX
theorem ir_iptr {σ:Nm} {Z:Nat→Prop} {W:World} {A:Option Addr} {n cap:Nat} {bl:List BlockD} (h:IR Z W (.slice A n cap) (.imm 10 (bl.map encB))) {k:Nat} {y:BlockD} (hy:bl[k]?=some y) (i:Nat) :
    ∃ b off,A=some ⟨b,off,none⟩∧VR σ Z W (.pointer (some ⟨b,off+k*10+i,none⟩)) (.iptr (encB y) i):=by
  obtain ⟨A',cap',e,h1,h2,h3⟩:=imm_of h
  injection e with e1 e2 e3
  subst e1
  obtain ⟨b,off,l,q1,q2,q3,q4,q5⟩:=h3 k y hy
  have hg:∀ j,j<10→l[j]?=some (l.getD j undef):=fun j hj=>by
    rw [List.getD_eq_getElem?_getD,List.getElem?_eq_getElem (by omega)]; rfl
  exact ⟨b,off,q1,.iptr b (off+k*10) i (encB y) (fun j=>l.getD j undef) rfl q2 (fun j hj=>q4 j _ (hg j hj)) (fun j x hx=>q5 j _ x (hg j (by have:=(List.getElem?_eq_some_iff.1 hx).1; exact this)) hx)⟩
def edX (bl:List BlockD) (p:Nat):Int:=match bl[p / 2]? with | some y=>if p % 2=0 then y.term.b0 else y.term.b1 | none=>-1
def edR (bl:List BlockD) (p:Nat):List PV:=((bl[p / 2]?).map encB).getD []
theorem ir_edges {Z:Nat→Prop} {W:World} {sv:Value} {bl:List BlockD} (h:IR Z W sv (.imm 10 (bl.map encB))):∃ A cap b off,sv=.slice A bl.length cap∧bl.length≤140737488351232∧(bl.length=0∨A=some ⟨b,off,none⟩) ∧
    ∀ k q,k<bl.length→q<2→Z b∧W.cell? ⟨b,off+k*10+6+q*2,none⟩=some (.int .i64 (edX bl (2*k+q))):=by
  obtain ⟨A,cap,rfl,h1,h2,h3⟩:=imm_of h
  have key:∀ b off,A=some ⟨b,off,none⟩→∀ k q,k<bl.length→q<2→Z b∧W.cell? ⟨b,off+k*10+6+q*2,none⟩=some (.int .i64 (edX bl (2*k+q))):=by
    intro b off hA k q hk hq
    obtain ⟨y,hy⟩:=get_of_lt hk
    obtain ⟨b',off',l,q1,q2,q3,q4,q5⟩:=h3 k y hy
    rw [hA] at q1; injection q1 with q1; injection q1 with e1 e2
    subst e1; subst e2
    have hg:∀ j,j<10→l[j]?=some (l.getD j undef):=fun j hj=>by
      rw [List.getD_eq_getElem?_getD,List.getElem?_eq_getElem (by omega)]; rfl
    refine ⟨q2,?_⟩
    unfold edX
    rw [show (2*k+q) / 2=k by omega,hy]
    match q,hq with
    | 0,_ =>
      have:=ir_int (q5 6 _ (.sc (.int .i64 y.term.b0)) (hg 6 (by omega)) rfl)
      have h6:=q4 6 _ (hg 6 (by omega))
      rw [this] at h6
      simpa using h6
    | 1,_ =>
      have:=ir_int (q5 8 _ (.sc (.int .i64 y.term.b1)) (hg 8 (by omega)) rfl)
      have h6:=q4 8 _ (hg 8 (by omega))
      rw [this] at h6
      simp only [show (2*k+1) % 2=1 by omega]
      simpa using h6
  cases bl with
  | nil=>exact ⟨A,cap,0,0,rfl,h1.2,.inl rfl,fun k q hk=>by simp at hk⟩
  | cons y bl =>
    obtain ⟨b,off,l,q1,_⟩:=h3 0 y rfl
    exact ⟨A,cap,b,off,rfl,h1.2,.inr q1,key b off q1⟩

set_option maxHeartbeats 1000000 in
theorem range_edg {E:PX.Env} {N:Nat} {R0 R:List PX.Ent} {H0:PX.Heap} {nx:Nat} {a:Act} {w:World} {n:Nat} {ds:List Deferred} (hS:PX.Sat E N R0 H0 nx a w) (htop:E.top=100000) {t p d:Tmp} {assign body:Code} {Q:Exit→Act→World→Prop} (h1:2≤n)
    (ib:Nat) {bl:List BlockD} {c0 c2 c3:PX.PV} (hib:PX.hlook H0 ib=some (.box 26 [c0,.imm 10 (bl.map encB),c2,c3])) (ht:PX.opd R0 [] (.tmp t)=some (.fn 147 [] [.ptr ib 0])) (ts hs:List Nat) (hk:PX.keepR R0 ts=some R)
    (Pn:List (EdgT (edX bl) bl.length)→Prop) (hp0:Pn []) (Hh:List (EdgT (edX bl) bl.length)→PX.Heap) (h00:Hh []=PX.restr H0 hs) (hnb:PX.hlook (PX.restr H0 hs) ib=none)
    (hmh:∀ pre id o,PX.hlook (Hh pre) id=some o→PX.isMp o=true→∃ o0,PX.hlook (PX.restr H0 hs) id=some o0∧PX.isMp o0=true)
    (hd:d<N) (hpd:R.all (fun e=>!Nat.beq e.t p&&!Nat.beq e.t d)=true)
    (hasg:∀ (l:Nat) (v:Value) (W:World) (K:Act→World→Prop),K ⟨(a.tmps.setIfInBounds p v).setIfInBounds d v,[]⟩ W→assign.wpIn (PX.FW (some l)) (n-1-1) Try.prog (Exit.then K (fun _ _ _=>False)) { tmps:=a.tmps.setIfInBounds p v,defers:=[] } W)
    (hbody:∀ (l:Nat) (pre:List (EdgT (edX bl) bl.length)) (x:EdgT (edX bl) bl.length) (E3:PX.Env) (W:World) (a3:Act),pre.length<2*bl.length→Pn pre→PX.EnvOk E3 (Hh pre) (PX.allU (Hh pre)) nx 100000→PX.Sat E3 N (⟨d,[],.iptr (edR bl x.1) (6+x.1 % 2*2)⟩::R) (Hh pre) nx a3 W→body.wpIn (PX.FW (some l)) (n-1-1) Try.prog (PX.rngPost E3 N nx (Hh (pre++[x])) (Hh (pre++[x])) (Pn (pre++[x])) False) (PX.Act.with_ a3 []) W)
    (hdone:∀ (D:Nat) (xs:List (EdgT (edX bl) bl.length)) (W:World) (E3:PX.Env),w.heap.size≤D→xs.map (·.1)=edgP (edX bl) (2*bl.length)→Pn xs→PX.Nested E E3 W→PX.EnvOk E3 (Hh xs) (PX.allU (Hh xs)) nx 100000→PX.Sat E3 N R (Hh xs) nx a W→W.heap[D]?=some (.deferred (some []))→(∀ (D:Nat) (x:Option (List Deferred)),w.heap[D]?=some (.deferred x)→W.heap[D]?=some (.deferred x))→Q .normal (PX.Act.with_ a ({ target:=.collected D,args:=#[] }::ds)) W) :
    (Code.rangeFunc (.tmp t) #[p] assign body).wpIn (PX.FW none) n Try.prog Q (PX.Act.with_ a ds) w:=by
  obtain ⟨σ,Z,hr0⟩:=hS
  have hv:=hr0.rs.opd (p:=[]) rfl ht
  generalize hav:a.eval (.tmp t)=vf at hv
  cases hv with
  | fn _ l1 l2 x1 x2 hl1 hl2 g1 g2 =>
    obtain rfl:l1=[]:=List.length_eq_zero_iff.1 (by simpa using hl1)
    obtain ⟨u,l',rfl,g3,g4⟩:=PX.VRs.inv ⟨hl2,g2⟩
    obtain rfl:=g4.inv0
    cases g3 with
    | ptr _ _ bx cx sx =>
      obtain ⟨b0,c,C,s2,hcell,_,v2⟩:=hr0.hr.at_ ib _ hib
      rw [sx] at s2; injection s2 with s2; injection s2 with e1 e2; subst e1 e2
      obtain ⟨s0,C1,rfl,_,v3⟩:=v2.inv
      obtain ⟨sv,C2,rfl,hsv,_⟩:=v3.inv
      have hir:=hsv.ir rfl
      obtain ⟨A,cap,b,off,rfl,hlen,hA,hrows⟩:=ir_edges hir
      have hr:PX.Rel E N [] R (PX.restr H0 hs) nx σ Z a w:=(hr0.rs' (hr0.rs.keep hk)).restr hs
      have hbx:¬ (E.nest (PX.restr H0 hs) nx σ Z w).Wr bx:=fun q=>by
        obtain ⟨i,o',c',q1,q2⟩:=PX.nest_wr q
        have:=hr0.hr.inj i ib _ _ bx c' cx (PX.hlook_restr q1).1 hib q2 sx
        subst this; rw [hnb] at q1; cases q1
      have hzw:∀ b,Z b→¬ (E.nest (PX.restr H0 hs) nx σ Z w).Wr b:=fun b hz q=>by
        obtain ⟨i,o',c',q4,q5⟩:=PX.nest_wr q; exact hr.hr.off i o' b c' q4 q5 hz
      have hmo:∀ pre,PX.mapsOld (E.nest (PX.restr H0 hs) nx σ Z w) (Hh pre):=fun pre id o hl ho=>by
        obtain ⟨o0,h0,h1⟩:=hmh pre id o hl ho
        obtain ⟨b,c,q1,x,q2,_⟩:=PX.isMp_blk (hr.hr.at_ id _ h0) h1
        exact ⟨b,c,q1,(Array.getElem?_eq_some_iff.1 q2).1⟩
      refine PX.range_pxr hr (α:=EdgT (edX bl) bl.length) (by omega) (gf:=147) (lb:=#[.pointer (some ⟨bx,0,none⟩)]) hav (enters_of Try.func147 (by kernel_rfl) rfl) (encs:=fun x=>#[edgA b off x.1]) (fun _=>rfl) (S:=fun xs=>xs.map (·.1)=edgP (edX bl) (2*bl.length)) (Sp:=fun pre=>pre.map (·.1) <+: edgP (edX bl) (2*bl.length)) (M:=2*bl.length)
        (edg_stops (n-1) (by omega) bx cap bl.length b off (2*bl.length) A hA (edX bl) hlen (Nat.le_refl _) _ (fun W hq=>?_) w (fun W hb=>Chg.of_below hb |>.mono fun _ _ h=>h.elim))
        Pn (fun _=>False) hp0 Hh Hh h00 hmo hmo (fun x=>⟨(a.tmps.setIfInBounds p (edgA b off x.1)).setIfInBounds d (edgA b off x.1),[]⟩) (fun l x W K hK=>by simpa using hasg l _ W K hK) (fun x=>⟨d,[],.iptr (edR bl x.1) (6+x.1 % 2*2)⟩::R)
        (fun pre x σ' Z' W q=>PX.rs_asg q.rs hd hpd ?_) (fun l pre x E3 W hp hpn _ ht3 hE3 hS3=>?_) (fun D xs W hD hs' hpn hS3 hd=>?_) (fun D pre W hD hs' hp=>hp.elim)
      · refine ⟨hq.cell (by simp [World.cell?,hcell]) hbx,fun k q hk hq2=>⟨edX bl (2*k+q),hq.cell (hrows k q hk hq2).2 (hzw _ (hrows k q hk hq2).1),Iff.rfl⟩⟩
      · obtain ⟨y,hy⟩:=get_of_lt (show x.1 / 2<bl.length by have:=x.2.1; omega)
        obtain ⟨b',off',q1,q2⟩:=ir_iptr (σ:=σ') (hir.mono q.z0 q.chg hzw) hy (6+x.1 % 2*2)
        have hAb:A=some ⟨b,off,none⟩:=by exact hA.resolve_left (fun h=>by have:=x.2.1; omega)
        rw [hAb] at q1; injection q1 with q1; injection q1 with e1 e2
        subst e1; subst e2
        unfold edR edgA
        rw [hy]
        rw [← Nat.add_assoc] at q2
        exact q2
      · have e4:PX.Act.with_ (⟨(a.tmps.setIfInBounds p (edgA b off x.1)).setIfInBounds d (edgA b off x.1),[]⟩:Act) []=⟨(a.tmps.setIfInBounds p (edgA b off x.1)).setIfInBounds d (edgA b off x.1),[]⟩:=rfl
        rw [← e4]
        exact hbody l pre x E3 W _ hp hpn (by rw [htop] at hE3; exact hE3) hS3
      · obtain ⟨σ3,Z3,h3⟩:=hS3
        obtain ⟨E3,k1,k2,k3⟩:=PX.Sat.nest ⟨σ3,Z3,hr.unnest h3⟩ htop
        exact hdone D xs W E3 hD hs' hpn k1 k2 k3 hd fun D' x hx=>PX.nest_def hr h3 hx
end Go.Proofs.Ytlkcidmmpeebeaa
