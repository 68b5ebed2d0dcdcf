/- Proved: a range over merge.edges of a row of blocks that the rounds write,each round walked on plain data. -/
import Derived.Test.YtlkcidmmpeebeaaUseR
set_option linter.unusedVariables false
set_option linter.unusedSimpArgs false
namespace Go
theorem SeqStopsK.weaken {α:Type} {F:Fence} {n:Nat} {P:Program} {gf:Nat} {lb:Array Value} {encs:α→Array Value} {K K':World→World→Prop} {S Sp:List α→Prop} {M:Nat} {w0:World} (h:SeqStopsK F n P gf lb encs K S Sp M w0) (hk:∀ A B,K' A B→K A B):SeqStopsK F n P gf lb encs K' S Sp M w0:=by
  intro l J Jx W hW hJ hJx hY hJ0
  refine h l J Jx W hW hJ hJx ?_ hJ0
  intro pre x W1 hj hl
  obtain ⟨fn,tmps,assign,body,hy,hR⟩:=hY pre x W1 hj hl
  refine ⟨fn,tmps,assign,body,hy,hR.mono ?_⟩
  rintro e W' (⟨rfl,h1,h2⟩ | ⟨rfl,h1⟩)
  · exact .inl ⟨rfl,h1,hk _ _ h2⟩
  · exact .inr ⟨rfl,h1⟩
end Go
namespace Go.Proofs.Ytlkcidmmpeebeaa
open Go.RowKit Go.PX
/-- the edge at a place -/
def edV (ys:List VB) (p:Nat):Int:=match ys[p / 2]? with | some y=>if p % 2=0 then y.b0 else y.b1 | none=>-1

set_option maxHeartbeats 1000000 in
theorem range_edgo {E:PX.Env} {N:Nat} {R0 R:List PX.Ent} {H0:PX.Heap} {nx:Nat} {a:Act} {w:World} {n:Nat} {ds:List Deferred} (hS:PX.Sat E N R0 H0 nx a w) (htop:E.top=100000) {t p d:Tmp} {assign body:Code} {Q:Exit→Act→World→Prop} (h1:2≤n)
    (ib iB len:Nat) {ys:List VB} (hlen:ys.length=len) (hl:len≤100000) {c0 c2 c3:PX.PV} (hib:PX.hlook H0 ib=some (.box 26 [c0,.own iB 10 len,c2,c3])) (ht:PX.opd R0 [] (.tmp t)=some (.fn 147 [] [.ptr ib 0])) (ts hs:List Nat) (hk:PX.keepR R0 ts=some R)
    (Hh:List (EdgT (edV ys) len)→PX.Heap) (h00:Hh []=PX.restr H0 hs) (hnb:PX.hlook (PX.restr H0 hs) ib=none) (hrow:∀ pre,∃ pu ys',PX.hlook (Hh pre) iB=some (.row 62 10 pu (ys'.map encV))∧ys'.length=len∧∀ p,0≤edV ys' p↔0≤edV ys p)
    (hmh:∀ pre id o,PX.hlook (Hh pre) id=some o→PX.isMp o=true→∃ o0,PX.hlook (PX.restr H0 hs) id=some o0∧PX.isMp o0=true) (hkey:∀ pre id o,PX.hlook (Hh pre) id=some o→∃ o0,PX.hlook (PX.restr H0 hs) id=some o0)
    (hd:d<N) (hpd:R.all (fun e=>!Nat.beq e.t p&&!Nat.beq e.t d)=true)
    (hasg:∀ (l:Nat) (v:Value) (W:World) (K:Act→World→Prop),K ⟨(a.tmps.setIfInBounds p v).setIfInBounds d v,[]⟩ W→assign.wpIn (PX.FW (some l)) (n-1-1) Try.prog (Exit.then K (fun _ _ _=>False)) { tmps:=a.tmps.setIfInBounds p v,defers:=[] } W)
    (hbody:∀ (l:Nat) (pre:List (EdgT (edV ys) len)) (x:EdgT (edV ys) len) (E3:PX.Env) (W:World) (a3:Act),PX.EnvOk E3 (Hh pre) (PX.allU (Hh pre)) nx 100000→PX.Sat E3 N (⟨d,[],.rptr iB 10 (x.1 / 2) (6+x.1 % 2*2)⟩::R) (Hh pre) nx a3 W→body.wpIn (PX.FW (some l)) (n-1-1) Try.prog (PX.rngPost E3 N nx (Hh (pre++[x])) (Hh (pre++[x])) True False) (PX.Act.with_ a3 []) W)
    (hdone:∀ (D:Nat) (xs:List (EdgT (edV ys) len)) (W:World) (E3:PX.Env),w.heap.size≤D→xs.map (·.1)=edgP (edV ys) (2*len)→PX.Nested E E3 W→PX.EnvOk E3 (Hh xs) (PX.allU (Hh xs)) nx 100000→PX.Sat E3 N R (Hh xs) nx a W→W.heap[D]?=some (.deferred (some []))→(∀ (D:Nat) (x:Option (List Deferred)),w.heap[D]?=some (.deferred x)→W.heap[D]?=some (.deferred x))→Q .normal (PX.Act.with_ a ({ target:=.collected D,args:=#[] }::ds)) W) :
    (Code.rangeFunc (.tmp t) #[p] assign body).wpIn (PX.FW none) n Try.prog Q (PX.Act.with_ a ds) w:=by
  obtain ⟨σ,Z,hr0⟩:=hS
  have hv:=hr0.rs.opd (p:=[]) rfl ht
  generalize hav:a.eval (.tmp t)=vf at hv
  cases hv with
  | fn _ l1 l2 x1 x2 hl1 hl2 g1 g2 =>
    obtain rfl:l1=[]:=List.length_eq_zero_iff.1 (by simpa using hl1)
    obtain ⟨u,l',rfl,g3,g4⟩:=PX.VRs.inv ⟨hl2,g2⟩
    obtain rfl:=g4.inv0
    cases g3 with
    | ptr _ _ bx cx sx =>
      obtain ⟨b0,c,C,s2,hcell,_,v2⟩:=hr0.hr.at_ ib _ hib
      rw [sx] at s2; injection s2 with s2; injection s2 with e1 e2; subst e1 e2
      obtain ⟨s0,C1,rfl,_,v3⟩:=v2.inv
      obtain ⟨sv,C2,rfl,hsv,_⟩:=v3.inv
      obtain ⟨A,b,cap,rfl,hA,hs2⟩:∃ A b c,sv=.slice A len c∧(len=0∨A=some ⟨b,0,none⟩)∧(len≠0→σ iB=some (b,c)):=by
        cases hsv with
        | own _ _ _ b c hs=>exact ⟨_,b,c,rfl,.inr rfl,fun _=>hs⟩
        | own0=>exact ⟨none,0,0,rfl,.inl rfl,fun q=>absurd rfl q⟩
      have hr:PX.Rel E N [] R (PX.restr H0 hs) nx σ Z a w:=(hr0.rs' (hr0.rs.keep hk)).restr hs
      have hbx:¬ (E.nest (PX.restr H0 hs) nx σ Z w).Wr bx:=fun q=>by
        obtain ⟨i,o',c',q1,q2⟩:=PX.nest_wr q
        have:=hr0.hr.inj i ib _ _ bx c' cx (PX.hlook_restr q1).1 hib q2 sx
        subst this; rw [hnb] at q1; cases q1
      have hmo:∀ pre,PX.mapsOld (E.nest (PX.restr H0 hs) nx σ Z w) (Hh pre):=fun pre id o hl ho=>by
        obtain ⟨o0,h0,h1⟩:=hmh pre id o hl ho
        obtain ⟨b,c,q1,x,q2,_⟩:=PX.isMp_blk (hr.hr.at_ id _ h0) h1
        exact ⟨b,c,q1,(Array.getElem?_eq_some_iff.1 q2).1⟩
      obtain ⟨X,hX⟩:∃ X:World→Prop,X=fun W=>∀ k q,k<len→q<2→∃ y:Int,W.cell? ⟨b,0+k*10+6+q*2,none⟩=some (.int .i64 y)∧(0≤y↔0≤edV ys (2*k+q)):=⟨_,rfl⟩
      have hXof:∀ {σ':Nm} {Z':Nat→Prop} {W:World} {pre},PX.HR σ' Z' W (Hh pre)→(len≠0→σ' iB=some (b,cap))→X W:=fun {σ' Z' W pre} hq hs'=>by
        obtain ⟨pu,ys',k1,k2,k3⟩:=hrow pre
        rw [hX]
        intro k q hk hq2
        obtain ⟨z,hz⟩:=get_of_lt (show k<ys'.length by omega)
        obtain ⟨r1,_⟩:=row_cells hq k1 (hs' (by omega)) (PX.map_get hz)
        have e:=k3 (2*k+q)
        have ev:edV ys' (2*k+q)=if q=0 then z.b0 else z.b1:=by
          unfold edV
          rw [show (2*k+q) / 2=k by omega,hz,show (2*k+q) % 2=q by omega]
        rw [ev] at e
        match q,hq2 with
        | 0,_=>exact ⟨z.b0,by have:=r1 6 _ rfl; rwa [show 0+k*10+6+0*2=k*10+6 by omega],by simpa using e⟩
        | 1,_=>exact ⟨z.b1,by have:=r1 8 _ rfl; rwa [show 0+k*10+6+1*2=k*10+8 by omega],by simpa using e⟩
      have hX0:X w:=hXof (pre:=[]) (by rw [h00]; exact hr.hr) hs2
      have hcs:∀ A B:World,(∀ p v,A.cell? p=some v→B.cell? p=some v)→X A→X B:=fun A B hc q=>by
        rw [hX] at q ⊢
        intro k q' h1 h2
        obtain ⟨y,q1,q2⟩:=q k q' h1 h2
        exact ⟨y,hc _ _ q1,q2⟩
      refine PX.range_pxq hr (α:=EdgT (edV ys) len) (by omega) (gf:=147) (lb:=#[.pointer (some ⟨bx,0,none⟩)]) hav (enters_of Try.func147 (by kernel_rfl) rfl) (encs:=fun x=>#[edgA b 0 x.1]) (fun _=>rfl) (S:=fun xs=>xs.map (·.1)=edgP (edV ys) (2*len)) (Sp:=fun pre=>pre.map (·.1) <+: edgP (edV ys) (2*len)) (M:=2*len)
        X (fun W l o1 o2 _ h1 h2 q=>hcs _ _ (fun p v hv=>putObj_cell h1 h2 hv) q)
        ((edg_stops (n-1) (by omega) bx cap len b 0 (2*len) A hA (edV ys) (by omega) (Nat.le_refl _) (fun W=>PX.Chg (E.nest (PX.restr H0 hs) nx σ Z w).Wr w W∧X W)
          (fun W ⟨hq,k⟩=>by
            rw [hX] at k
            exact ⟨hq.cell (by simp [World.cell?,hcell]) hbx,k⟩) w (fun W hb=>⟨Chg.of_below hb |>.mono fun _ _ h=>h.elim,hcs _ _ (fun p v hv=>cell_below hb hv) hX0⟩)).weaken (fun A B q=>q.1))
        (fun _=>True) trivial Hh h00 hmo hkey (fun pre W σ' Z' _ q=>hXof q.hr (fun h=>q.ext _ _ (hs2 h))) (fun x=>⟨(a.tmps.setIfInBounds p (edgA b 0 x.1)).setIfInBounds d (edgA b 0 x.1),[]⟩) (fun l x W K hK=>by simpa using hasg l _ W K hK) (fun x=>⟨d,[],.rptr iB 10 (x.1 / 2) (6+x.1 % 2*2)⟩::R)
        (fun pre x σ' Z' W q=>PX.rs_asg q.rs hd hpd ?_) (fun l pre x E3 W hp hpn _ ht3 hE3 hS3=>?_) (fun D xs W hD hs' hpn hS3 hd=>?_)
      · have hx:=x.2.1
        have:=VR.rptr (Z:=Z') (w:=W) iB 10 (x.1 / 2) (6+x.1 % 2*2) b cap (q.ext _ _ (hs2 (by omega)))
        unfold edgA
        rw [show 0+x.1 / 2*10+6+x.1 % 2*2=x.1 / 2*10+(6+x.1 % 2*2) by omega]
        exact this
      · exact hbody l pre x E3 W _ (by rw [htop] at hE3; exact hE3) hS3
      · obtain ⟨σ3,Z3,h3⟩:=hS3
        obtain ⟨E3,k1,k2,k3⟩:=PX.Sat.nest ⟨σ3,Z3,hr.unnest h3⟩ htop
        exact hdone D xs W E3 hD hs' k1 k2 k3 hd fun D' x hx=>PX.nest_def hr h3 hx
end Go.Proofs.Ytlkcidmmpeebeaa
